/- Go functions of the seat, each as a Lean function that tells its answer, and the proof that the call gives it. Condition: the arguments are read as lists. Laid by a program of this session. -/
import Derived.Test.YtjnciljimacblaaQx0
import Derived.Test.YtjnciljimacblaaQx4
import Derived.Test.YtjnciljimacblaaQx7
import Derived.Test.YtjnciljimacblaaQx16
import Derived.Test.YtjnciljimacblaaQx20
import Derived.Test.YtjnciljimacblaaQx21
namespace Go.Proofs.Ytjnciljimacblaa.Q
open Go.RowKit Go.Proofs.YtjnciljimacblaaW.PrintWords Go.Proofs.YtjnciljimacblaaW.PrintLast Go.Proofs.YtjnciljimacblaaW.PrintMore
attribute [local go_sem] max2_int min2_int max_two min_two max_three min_three max_four min_four   -- for this text's walks alone
set_option linter.unusedVariables false
set_option linter.unusedSimpArgs false

/-! ### jotterlaw17_DiffApart: function 8 -/
set_option maxRecDepth 100000 in
mutual
def jotterlaw17_DiffApart.l0 : Nat → Int → Int → Int → List Int → Int → Option (Bool)
  | 0, _, _, _, _, _ => none
  | k + 1, x0, x1, x2, x7, x9 => if x9 < x0 then (if x7.length < 140737488355328 then (jotterlaw17_DiffApart.l0 k x0 x1 x2 (x7 ++ [(97 + (Int.tmod x9 13)) % 256]) (wrap64 (x9 + 1))) else (none)) else (jotterlaw17_DiffApart.l1 k x0 x1 x2 x7 ([] : List Int) 0)
def jotterlaw17_DiffApart.l1 : Nat → Int → Int → Int → List Int → List Int → Int → Option (Bool)
  | 0, _, _, _, _, _, _ => none
  | k + 1, x0, x1, x2, x7, x8, x10 => if x10 < x1 then (if x8.length < 140737488355328 then (jotterlaw17_DiffApart.l1 k x0 x1 x2 x7 (x8 ++ [(110 + (Int.tmod x10 13)) % 256]) (wrap64 (x10 + 1))) else (none)) else ((diff_Distance.f (strOfNums x7) (strOfNums x8)).bind fun bt231 => ((diff_Common.f (strOfNums x7) (strOfNums x8)).bind fun bt233 => ((diff_Between.f (strOfNums x7) (strOfNums x8) 1 1).bind fun bt235 => (if bt231.2 = 0 then (if bt233.2 = 0 then (if bt231.1 = (wrap64 (x0 + x1)) then (jotterlaw17_DiffApart.j2 k x0 x1 x2 x7 (strOfNums x7) (strOfNums x8) bt235.1 bt235.2 (bt233.1.toList != ([] : List UInt8))) else (jotterlaw17_DiffApart.j2 k x0 x1 x2 x7 (strOfNums x7) (strOfNums x8) bt235.1 bt235.2 true)) else (jotterlaw17_DiffApart.j2 k x0 x1 x2 x7 (strOfNums x7) (strOfNums x8) bt235.1 bt235.2 true)) else (jotterlaw17_DiffApart.j2 k x0 x1 x2 x7 (strOfNums x7) (strOfNums x8) bt235.1 bt235.2 true)))))
def jotterlaw17_DiffApart.j2 : Nat → Int → Int → Int → List Int → ByteArray → ByteArray → List (S38) → Int → Bool → Option (Bool)
  | 0, _, _, _, _, _, _, _, _, _ => none
  | k + 1, x0, x1, x2, x7, x11, x12, x17, x18, x88 => if x88 = true then (some false) else (if (wrap64 (x0 + x1)) > 64 then (if x18 = 172 then (if (x17.length : Int) = 0 then (jotterlaw17_DiffApart.j3 k x0 x2 x7 x11 x12 x17) else (some false)) else (some false)) else (if x18 = 0 then (if (x17.length : Int) = (wrap64 (x0 + x1)) then (jotterlaw17_DiffApart.j3 k x0 x2 x7 x11 x12 x17) else (some false)) else (some false)))
def jotterlaw17_DiffApart.j3 : Nat → Int → Int → List Int → ByteArray → ByteArray → List (S38) → Option (Bool)
  | 0, _, _, _, _, _, _ => none
  | k + 1, x0, x2, x7, x11, x12, x17 => jotterlaw17_DiffApart.l2 k x0 x2 x7 x11 x12 x17 0
def jotterlaw17_DiffApart.l2 : Nat → Int → Int → List Int → ByteArray → ByteArray → List (S38) → Int → Option (Bool)
  | 0, _, _, _, _, _, _, _ => none
  | k + 1, x0, x2, x7, x11, x12, x17, x19 => if x19 < (x17.length : Int) then (if x19 ≥ x0 then (if 0 ≤ (wrap64 (x19 - x0)) then (if (wrap64 (x19 - x0)) < (x12.size : Int) then (if 0 ≤ x19 then ((jotterlaw17_one.f ((rd_T38 x17 x19).f0) ((rd_T38 x17 x19).f1) ((rd_T38 x17 x19).f2) ((rd_T38 x17 x19).f3) ((rd_T38 x17 x19).f4) 1 (wrap64 (x19 - x0)) (bt x12 (wrap64 (x19 - x0))) 1 (wrap64 (x19 + 1))).bind fun t241 => (if t241 = true then (jotterlaw17_DiffApart.l2 k x0 x2 x7 x11 x12 x17 (wrap64 (x19 + 1))) else (some false))) else (none)) else (none)) else (none)) else (if 0 ≤ x19 then ((jotterlaw17_one.f ((rd_T38 x17 x19).f0) ((rd_T38 x17 x19).f1) ((rd_T38 x17 x19).f2) ((rd_T38 x17 x19).f3) ((rd_T38 x17 x19).f4) 2 0 0 1 (wrap64 (x19 + 1))).bind fun t243 => (if t243 = true then (jotterlaw17_DiffApart.l2 k x0 x2 x7 x11 x12 x17 (wrap64 (x19 + 1))) else (some false))) else (none))) else (jotterlaw17_DiffApart.l3 k x0 x2 x7 x11)
def jotterlaw17_DiffApart.l3 : Nat → Int → Int → List Int → ByteArray → Option (Bool)
  | 0, _, _, _, _ => none
  | k + 1, x0, x2, x7, x11 => if (x7.length : Int) < 512 then (if x7.length < 140737488355328 then (jotterlaw17_DiffApart.l3 k x0 x2 (x7 ++ [122]) x11) else (none)) else ((diff_Distance.f (strOfNums x7) (⟨#[]⟩ : ByteArray)).bind fun bt247 => (if (strOfNums x7).size + 1 ≤ 9223372036854775807 then ((diff_Distance.f (⟨#[]⟩ : ByteArray) ((strOfNums x7) ++ (⟨#[122]⟩ : ByteArray))).bind fun bt249 => (if bt247.2 = 0 then (if bt249.2 = 170 then (if x2 ≥ 32 then (if 0 ≤ (wrap64 (Int.tdiv x0 2)) then (if (wrap64 (Int.tdiv x0 2)) ≤ (x11.size : Int) then ((diff_Common.f (x11.extract 0 ((wrap64 (Int.tdiv x0 2)) : Int).toNat) (strOfNums (([113, x2] : List Int)))).bind fun bt254 => (if ((bt254.2 == 0) == (decide (x2 ≤ 126))) = true then (if x2 ≤ 126 then (some true) else (some (bt254.2 == 171))) else (some false))) else (none)) else (none)) else (if 0 ≤ (wrap64 (Int.tdiv x0 2)) then (if (wrap64 (Int.tdiv x0 2)) ≤ (x11.size : Int) then ((diff_Common.f (x11.extract 0 ((wrap64 (Int.tdiv x0 2)) : Int).toNat) (strOfNums (([113, x2] : List Int)))).bind fun bt259 => (if ((bt259.2 == 0) == false) = true then (some (bt259.2 == 171)) else (some false))) else (none)) else (none))) else (some false)) else (some false))) else (none)))
end
def jotterlaw17_DiffApart.f (k : Nat) (a0 : Int) (a1 : Int) (a2 : Int) : Option (Bool) := (jotterlaw17_into.f a0 513).bind fun t223 => ((jotterlaw17_into.f a1 513).bind fun t224 => (jotterlaw17_DiffApart.l0 k t223 t224 a2 ([] : List Int) 0))
set_option maxRecDepth 100000 in
theorem jotterlaw17_DiffApart.mono_l : ∀ k, (∀ y0 y1 y2 y3 y4, LeO (jotterlaw17_DiffApart.l0 k y0 y1 y2 y3 y4) (jotterlaw17_DiffApart.l0 (k + 1) y0 y1 y2 y3 y4)) ∧ (∀ y0 y1 y2 y3 y4 y5, LeO (jotterlaw17_DiffApart.l1 k y0 y1 y2 y3 y4 y5) (jotterlaw17_DiffApart.l1 (k + 1) y0 y1 y2 y3 y4 y5)) ∧ (∀ y0 y1 y2 y3 y4 y5 y6 y7 y8, LeO (jotterlaw17_DiffApart.j2 k y0 y1 y2 y3 y4 y5 y6 y7 y8) (jotterlaw17_DiffApart.j2 (k + 1) y0 y1 y2 y3 y4 y5 y6 y7 y8)) ∧ (∀ y0 y1 y2 y3 y4 y5, LeO (jotterlaw17_DiffApart.j3 k y0 y1 y2 y3 y4 y5) (jotterlaw17_DiffApart.j3 (k + 1) y0 y1 y2 y3 y4 y5)) ∧ (∀ y0 y1 y2 y3 y4 y5 y6, LeO (jotterlaw17_DiffApart.l2 k y0 y1 y2 y3 y4 y5 y6) (jotterlaw17_DiffApart.l2 (k + 1) y0 y1 y2 y3 y4 y5 y6)) ∧ (∀ y0 y1 y2 y3, LeO (jotterlaw17_DiffApart.l3 k y0 y1 y2 y3) (jotterlaw17_DiffApart.l3 (k + 1) y0 y1 y2 y3))
  | 0 => ⟨fun _ _ _ _ _ r h => by simp [jotterlaw17_DiffApart.l0] at h, fun _ _ _ _ _ _ r h => by simp [jotterlaw17_DiffApart.l1] at h, fun _ _ _ _ _ _ _ _ _ r h => by simp [jotterlaw17_DiffApart.j2] at h, fun _ _ _ _ _ _ r h => by simp [jotterlaw17_DiffApart.j3] at h, fun _ _ _ _ _ _ _ r h => by simp [jotterlaw17_DiffApart.l2] at h, fun _ _ _ _ r h => by simp [jotterlaw17_DiffApart.l3] at h⟩
  | k + 1 => by
    obtain ⟨ih0, ih1, ih2, ih3, ih4, ih5⟩ := jotterlaw17_DiffApart.mono_l k
    refine ⟨?_, ?_, ?_, ?_, ?_, ?_⟩
    · intro y0 y1 y2 y3 y4
      unfold jotterlaw17_DiffApart.l0
      repeat' first
      | (with_reducible exact ih0 _ _ _ _ _)
      | (with_reducible exact ih1 _ _ _ _ _ _)
      | (with_reducible exact ih2 _ _ _ _ _ _ _ _ _)
      | (with_reducible exact ih3 _ _ _ _ _ _)
      | (with_reducible exact ih4 _ _ _ _ _ _ _)
      | (with_reducible exact ih5 _ _ _ _)
      | (with_reducible exact LeO.refl _)
      | (with_reducible exact LeO.none _)
      | (with_reducible refine LeO.ite ?_ ?_)
      | (with_reducible refine LeO.bind ?_ (fun _ => ?_))
      | exact ih0 _ _ _ _ _
      | exact ih1 _ _ _ _ _ _
      | exact ih2 _ _ _ _ _ _ _ _ _
      | exact ih3 _ _ _ _ _ _
      | exact ih4 _ _ _ _ _ _ _
      | exact ih5 _ _ _ _
      | exact LeO.none _
      | refine LeO.ite ?_ ?_
      | refine LeO.bind ?_ (fun _ => ?_)
    · intro y0 y1 y2 y3 y4 y5
      unfold jotterlaw17_DiffApart.l1
      repeat' first
      | (with_reducible exact ih0 _ _ _ _ _)
      | (with_reducible exact ih1 _ _ _ _ _ _)
      | (with_reducible exact ih2 _ _ _ _ _ _ _ _ _)
      | (with_reducible exact ih3 _ _ _ _ _ _)
      | (with_reducible exact ih4 _ _ _ _ _ _ _)
      | (with_reducible exact ih5 _ _ _ _)
      | (with_reducible exact LeO.refl _)
      | (with_reducible exact LeO.none _)
      | (with_reducible refine LeO.ite ?_ ?_)
      | (with_reducible refine LeO.bind ?_ (fun _ => ?_))
      | exact ih0 _ _ _ _ _
      | exact ih1 _ _ _ _ _ _
      | exact ih2 _ _ _ _ _ _ _ _ _
      | exact ih3 _ _ _ _ _ _
      | exact ih4 _ _ _ _ _ _ _
      | exact ih5 _ _ _ _
      | exact LeO.none _
      | refine LeO.ite ?_ ?_
      | refine LeO.bind ?_ (fun _ => ?_)
    · intro y0 y1 y2 y3 y4 y5 y6 y7 y8
      unfold jotterlaw17_DiffApart.j2
      repeat' first
      | (with_reducible exact ih0 _ _ _ _ _)
      | (with_reducible exact ih1 _ _ _ _ _ _)
      | (with_reducible exact ih2 _ _ _ _ _ _ _ _ _)
      | (with_reducible exact ih3 _ _ _ _ _ _)
      | (with_reducible exact ih4 _ _ _ _ _ _ _)
      | (with_reducible exact ih5 _ _ _ _)
      | (with_reducible exact LeO.refl _)
      | (with_reducible exact LeO.none _)
      | (with_reducible refine LeO.ite ?_ ?_)
      | (with_reducible refine LeO.bind ?_ (fun _ => ?_))
      | exact ih0 _ _ _ _ _
      | exact ih1 _ _ _ _ _ _
      | exact ih2 _ _ _ _ _ _ _ _ _
      | exact ih3 _ _ _ _ _ _
      | exact ih4 _ _ _ _ _ _ _
      | exact ih5 _ _ _ _
      | exact LeO.none _
      | refine LeO.ite ?_ ?_
      | refine LeO.bind ?_ (fun _ => ?_)
    · intro y0 y1 y2 y3 y4 y5
      unfold jotterlaw17_DiffApart.j3
      repeat' first
      | (with_reducible exact ih0 _ _ _ _ _)
      | (with_reducible exact ih1 _ _ _ _ _ _)
      | (with_reducible exact ih2 _ _ _ _ _ _ _ _ _)
      | (with_reducible exact ih3 _ _ _ _ _ _)
      | (with_reducible exact ih4 _ _ _ _ _ _ _)
      | (with_reducible exact ih5 _ _ _ _)
      | (with_reducible exact LeO.refl _)
      | (with_reducible exact LeO.none _)
      | (with_reducible refine LeO.ite ?_ ?_)
      | (with_reducible refine LeO.bind ?_ (fun _ => ?_))
      | exact ih0 _ _ _ _ _
      | exact ih1 _ _ _ _ _ _
      | exact ih2 _ _ _ _ _ _ _ _ _
      | exact ih3 _ _ _ _ _ _
      | exact ih4 _ _ _ _ _ _ _
      | exact ih5 _ _ _ _
      | exact LeO.none _
      | refine LeO.ite ?_ ?_
      | refine LeO.bind ?_ (fun _ => ?_)
    · intro y0 y1 y2 y3 y4 y5 y6
      unfold jotterlaw17_DiffApart.l2
      repeat' first
      | (with_reducible exact ih0 _ _ _ _ _)
      | (with_reducible exact ih1 _ _ _ _ _ _)
      | (with_reducible exact ih2 _ _ _ _ _ _ _ _ _)
      | (with_reducible exact ih3 _ _ _ _ _ _)
      | (with_reducible exact ih4 _ _ _ _ _ _ _)
      | (with_reducible exact ih5 _ _ _ _)
      | (with_reducible exact LeO.refl _)
      | (with_reducible exact LeO.none _)
      | (with_reducible refine LeO.ite ?_ ?_)
      | (with_reducible refine LeO.bind ?_ (fun _ => ?_))
      | exact ih0 _ _ _ _ _
      | exact ih1 _ _ _ _ _ _
      | exact ih2 _ _ _ _ _ _ _ _ _
      | exact ih3 _ _ _ _ _ _
      | exact ih4 _ _ _ _ _ _ _
      | exact ih5 _ _ _ _
      | exact LeO.none _
      | refine LeO.ite ?_ ?_
      | refine LeO.bind ?_ (fun _ => ?_)
    · intro y0 y1 y2 y3
      unfold jotterlaw17_DiffApart.l3
      repeat' first
      | (with_reducible exact ih0 _ _ _ _ _)
      | (with_reducible exact ih1 _ _ _ _ _ _)
      | (with_reducible exact ih2 _ _ _ _ _ _ _ _ _)
      | (with_reducible exact ih3 _ _ _ _ _ _)
      | (with_reducible exact ih4 _ _ _ _ _ _ _)
      | (with_reducible exact ih5 _ _ _ _)
      | (with_reducible exact LeO.refl _)
      | (with_reducible exact LeO.none _)
      | (with_reducible refine LeO.ite ?_ ?_)
      | (with_reducible refine LeO.bind ?_ (fun _ => ?_))
      | exact ih0 _ _ _ _ _
      | exact ih1 _ _ _ _ _ _
      | exact ih2 _ _ _ _ _ _ _ _ _
      | exact ih3 _ _ _ _ _ _
      | exact ih4 _ _ _ _ _ _ _
      | exact ih5 _ _ _ _
      | exact LeO.none _
      | refine LeO.ite ?_ ?_
      | refine LeO.bind ?_ (fun _ => ?_)
set_option maxRecDepth 100000 in
theorem jotterlaw17_DiffApart.mono : ∀ a0 a1 a2 k, LeO (jotterlaw17_DiffApart.f k a0 a1 a2) (jotterlaw17_DiffApart.f (k + 1) a0 a1 a2) := by
  intro a0 a1 a2 k
  obtain ⟨ih0, ih1, ih2, ih3, ih4, ih5⟩ := jotterlaw17_DiffApart.mono_l k
  unfold jotterlaw17_DiffApart.f
  repeat' first
      | (with_reducible exact ih0 _ _ _ _ _)
      | (with_reducible exact ih1 _ _ _ _ _ _)
      | (with_reducible exact ih2 _ _ _ _ _ _ _ _ _)
      | (with_reducible exact ih3 _ _ _ _ _ _)
      | (with_reducible exact ih4 _ _ _ _ _ _ _)
      | (with_reducible exact ih5 _ _ _ _)
      | (with_reducible exact LeO.refl _)
      | (with_reducible exact LeO.none _)
      | (with_reducible refine LeO.ite ?_ ?_)
      | (with_reducible refine LeO.bind ?_ (fun _ => ?_))
      | exact ih0 _ _ _ _ _
      | exact ih1 _ _ _ _ _ _
      | exact ih2 _ _ _ _ _ _ _ _ _
      | exact ih3 _ _ _ _ _ _
      | exact ih4 _ _ _ _ _ _ _
      | exact ih5 _ _ _ _
      | exact LeO.none _
      | refine LeO.ite ?_ ?_
      | refine LeO.bind ?_ (fun _ => ?_)
theorem jotterlaw17_DiffApart.isEmpty_ne (l : List UInt8) : l.isEmpty = !(l != []) := by cases l <;> rfl
def jotterlaw17_DiffApart.T40 : Bool × List (List Nat × List Nat) := (true, [([], []), ([], []), ([1], [1]), ([0, 2], [0, 2]), ([], []), ([4], [4]), ([5], [5]), ([3, 6], [3, 6]), ([7], [7]), ([8], [8]), ([8], [8]), ([10, 7, 0, 1, 2, 3, 4, 5, 6, 7, 8, 9, 10], [10])])
def jotterlaw17_DiffApart.B40 : List Nat := [0, 0, 2, 7, 0, 16, 48, 127, 255, 511, 511, 2047]
theorem jotterlaw17_DiffApart.tab40 : rtab .any (opsOf Try.f8 40) = jotterlaw17_DiffApart.T40 := by kernel_rfl
theorem jotterlaw17_DiffApart.bits40 : waitsOk jotterlaw17_DiffApart.T40.2 jotterlaw17_DiffApart.B40 = true := by kernel_rfl
set_option maxHeartbeats 8000000 in
set_option maxRecDepth 100000 in
theorem jotterlaw17_DiffApart.calls (k : Nat) (a0 : Int) (a1 : Int) (a2 : Int) (r : Bool) (w : World) (h : jotterlaw17_DiffApart.f k a0 a1 a2 = some r) :
    Calls Try.prog 8 #[.int .i64 a0, .int .i64 a1, .int .u8 a2] w fun e w' => e = .returned (.bool r) ∧ Below w.heap.size w w' := by
  have hu38 := Try.underlying38
  have HB := Aside0.mk (Below.refl w.heap.size w)
  have H : ((jotterlaw17_into.f a0 513).bind fun t223 => ((jotterlaw17_into.f a1 513).bind fun t224 => (jotterlaw17_DiffApart.l0 k t223 t224 a2 ([] : List Int) 0))) = some r := h
  clear h
  replace H := Option.bind_eq_some_iff.mp H
  obtain ⟨t223, A40, H⟩ := H
  replace H : ((jotterlaw17_into.f a1 513).bind fun t224 => (jotterlaw17_DiffApart.l0 k t223 t224 a2 ([] : List Int) 0)) = some r := H
  have A4 := Aside0.mk A40
  clear A40
  replace H := Option.bind_eq_some_iff.mp H
  obtain ⟨t224, A50, H⟩ := H
  replace H : (jotterlaw17_DiffApart.l0 k t223 t224 a2 ([] : List Int) 0) = some r := H
  have A5 := Aside0.mk A50
  clear A50
  have H' := Aside0.mk H
  clear H
  go_enter Try.func8, Try.ntmps8
  go_wp2_with (first | ((with_reducible refine gate_callee (f := 22) rfl ?_); refine goesL_ (some 23) rfl rfl Try.func22 (by kernel_rfl) rfl #[.int .i64 a0, .int .i64 513] rfl (by (try simp only [List.map_toArray, List.map_cons, List.map_nil]); first | done | rfl | (simp only [List.length_drop, List.length_take]; rfl)) ?_; (with_reducible refine (jotterlaw17_into.calls a0 513 t223 _ A4.out).mono ?_); rintro e w' ⟨rfl, ⟨nd, rfl⟩⟩; refine ⟨_, rfl, ?_⟩) | ((with_reducible refine gate_callee (f := 22) rfl ?_); refine goesL_ (some 25) rfl rfl Try.func22 (by kernel_rfl) rfl #[.int .i64 a1, .int .i64 513] rfl (by (try simp only [List.map_toArray, List.map_cons, List.map_nil]); first | done | rfl | (simp only [List.length_drop, List.length_take]; rfl)) ?_; (with_reducible refine (jotterlaw17_into.calls a1 513 t224 _ A5.out).mono ?_); rintro e w' ⟨rfl, ⟨nd, rfl⟩⟩; refine ⟨_, rfl, ?_⟩))
  go_loopg [7, 9] k (fun kq v7 v9 w' => ∃ (x7_1 : List Int) (x9_1 : Int), v9 = .int .i64 x9_1 ∧ Aside0 (jotterlaw17_DiffApart.l0 kq t223 t224 a2 x7_1 x9_1 = some r) ∧ Aside0 (kq ≤ k) ∧ Aside0 (Kd.R (Kd.int .u8) 5 w' w.heap.size (fun _ => True) v7 x7_1) ∧ Aside0 (Below w.heap.size w w'))
  case atStart => exact ⟨(([] : List Int)), (0), (by first | rfl | (simp; done) | (simp [*]; done)), H', ⟨Nat.le_refl _⟩, ⟨by first | exact Kd.R_nil _ _ _ _ _ | exact Kd.N_nil _ _ _ _ _ | exact Kd.V_nil _ _ _ _ _ | exact Kd.Q_nil _ _ _ _ _ | exact Kd.S_nil _ _ _ _ _⟩, ⟨by repeat (first | (with_reducible first | exact HB.out | apply below_alloc | apply pw_below_drewN | apply below_drew1) | exact HB.out)⟩⟩
  case round =>
    clear H'
    try clear c2
    try clear p2
    obtain ⟨x7_1, x9_1, rfl, HA, HK1, HO_7, HB⟩ := hrel
    cases gk with
    | zero => exact absurd HA.out (by simp [jotterlaw17_DiffApart.l0])
    | succ k1 =>
      have H := HA.out
      clear HA
      simp only [jotterlaw17_DiffApart.l0] at H
      by_cases c6 : x9_1 < t223
      · rw [if_pos c6] at H
        have c6b0 : decide (x9_1 < t223) = true := decide_eq_true c6
        clear c6
        by_cases c7 : x7_1.length < 140737488355328
        · rw [if_pos c7] at H
          have LMc7 := Aside0.mk c7
          clear c7
          obtain ⟨y225, hy225⟩ : ∃ y_ : List Int, y_ = (x7_1 ++ [(97 + (Int.tmod x9_1 13)) % 256]) := ⟨_, rfl⟩
          replace H : (jotterlaw17_DiffApart.l0 k1 t223 t224 a2 y225 (wrap64 (x9_1 + 1))) = some r := by first | (rw [hy225]; with_reducible exact H) | (have H2_ := (Option.bind_some _ _).symm.trans H; rw [hy225]; with_reducible exact H2_) | (have H2_ := (Option.bind_some _ _).symm.trans H; with_reducible exact H2_) | with_reducible exact H | (rw [hy225]; exact H) | exact H
          have Ny225 := Aside0.mk hy225
          clear hy225
          have H' := Aside0.mk H
          clear H
          go_wp2_with (first | ((with_reducible refine gate_builtin (b := .append) (xs := #[.tmp 31, .tmp 36]) rfl ?_); (try (refine gate_guard (by rfl) ?_; dsimp only)); at_builtin; refine Kd.R_append (Kd.int .u8) (w0 := w) w.heap.size rfl (.tmp 31) (.tmp 36) 49 5 (.int .u8 0) 1 rfl Try.underlying49 info5 rfl (by decide) (by omega) u7 x7_1 ((97 + (Int.tmod x9_1 13)) % 256) [.int .u8 ((97 + (Int.tmod x9_1 13)) % 256)] (fun _ => True) (fun _ => False) rfl rfl ?aP (fun _ hk => hk.elim) ?aF ?aO ?aB ?aS ?aL ?_; (case aP => exact rfl); (case aB => exact (by repeat (first | (with_reducible first | exact HB.out | apply below_alloc | apply pw_below_drewN | apply below_drew1) | exact HB.out))); (case aF => exact (fun _ _ => trivial)); (case aO => exact (by (with_reducible repeat (first | apply Kd.R_alloc | apply Kd.R_drewN | apply Kd.R_drew)); exact HO_7.out)); (case aS => exact (below_size (by repeat (first | (with_reducible first | exact HB.out | apply below_alloc | apply pw_below_drewN | apply below_drew1) | exact HB.out)))); (case aL => have := LMc7.out; omega); intro v226 w8 ho hb hg hat; rw [← Ny225.out] at ho; have n0_ := Aside0.mk (hb); have n1_ := Aside0.mk (ho); clear HB; clear HO_7; have HB := n0_; have HO227 := n1_; clear n0_ n1_; clear ho hb hg hat))
          go_roundg k1
          case measure => have := HK1.out; omega
          case rel => exact ⟨(y225), (wrap64 (x9_1 + 1)), (by first | rfl | (simp; done) | (simp [*]; done)), H', ⟨by have := HK1.out; omega⟩, ⟨by (with_reducible repeat (first | apply Kd.R_alloc | apply Kd.R_drewN | apply Kd.R_drew)); exact HO227.out⟩, ⟨by repeat (first | (with_reducible first | exact HB.out | apply below_alloc | apply pw_below_drewN | apply below_drew1) | exact HB.out)⟩⟩
        · rw [if_neg c7] at H
          exact absurd H (by simp)
      · rw [if_neg c6] at H
        have c6b0 : decide (x9_1 < t223) = false := decide_eq_false c6
        clear c6
        have H' := Aside0.mk H
        clear H
        go_wp2
        go_loopg [8, 10] k1 (fun kq v8 v10 w' => ∃ (x8_2 : List Int) (x10_2 : Int), v10 = .int .i64 x10_2 ∧ Aside0 (jotterlaw17_DiffApart.l1 kq t223 t224 a2 x7_1 x8_2 x10_2 = some r) ∧ Aside0 (kq ≤ k1) ∧ Aside0 (Kd.R (Kd.int .u8) 5 w' w.heap.size (fun k_ => some k_ ≠ (v8 : Value).ownBlock) u7 x7_1) ∧ Aside0 (Kd.R (Kd.int .u8) 5 w' w.heap.size (fun k_ => some k_ ≠ (u7 : Value).ownBlock) v8 x8_2) ∧ Aside0 (Below w.heap.size w w'))
        case atStart => exact ⟨(([] : List Int)), (0), (by first | rfl | (simp; done) | (simp [*]; done)), H', ⟨Nat.le_refl _⟩, ⟨by (with_reducible repeat (first | apply Kd.R_alloc | apply Kd.R_drewN | apply Kd.R_drew)); exact Kd.R_mono HO_7.out (fun _ hk => (by simp [Value.ownBlock]))⟩, ⟨by first | exact Kd.R_nil _ _ _ _ _ | exact Kd.N_nil _ _ _ _ _ | exact Kd.V_nil _ _ _ _ _ | exact Kd.Q_nil _ _ _ _ _ | exact Kd.S_nil _ _ _ _ _⟩, ⟨by repeat (first | (with_reducible first | exact HB.out | apply below_alloc | apply pw_below_drewN | apply below_drew1) | exact HB.out)⟩⟩
        case round =>
          clear H'
          try clear c2
          try clear p2
          try clear c6
          try clear c6b0
          try clear p6
          try clear c7
          try clear c8
          try clear p2
          obtain ⟨x8_2, x10_2, rfl, HA, HK2, HO_7, HO_8, HB⟩ := hrel
          cases gk with
          | zero => exact absurd HA.out (by simp [jotterlaw17_DiffApart.l1])
          | succ k2 =>
            have H := HA.out
            clear HA
            simp only [jotterlaw17_DiffApart.l1] at H
            by_cases c9 : x10_2 < t224
            · rw [if_pos c9] at H
              have c9b0 : decide (x10_2 < t224) = true := decide_eq_true c9
              clear c9
              by_cases c10 : x8_2.length < 140737488355328
              · rw [if_pos c10] at H
                have LMc10 := Aside0.mk c10
                clear c10
                obtain ⟨y228, hy228⟩ : ∃ y_ : List Int, y_ = (x8_2 ++ [(110 + (Int.tmod x10_2 13)) % 256]) := ⟨_, rfl⟩
                replace H : (jotterlaw17_DiffApart.l1 k2 t223 t224 a2 x7_1 y228 (wrap64 (x10_2 + 1))) = some r := by first | (rw [hy228]; with_reducible exact H) | (have H2_ := (Option.bind_some _ _).symm.trans H; rw [hy228]; with_reducible exact H2_) | (have H2_ := (Option.bind_some _ _).symm.trans H; with_reducible exact H2_) | with_reducible exact H | (rw [hy228]; exact H) | exact H
                have Ny228 := Aside0.mk hy228
                clear hy228
                have H' := Aside0.mk H
                clear H
                go_wp2_with (first | ((with_reducible refine gate_builtin (b := .append) (xs := #[.tmp 43, .tmp 48]) rfl ?_); (try (refine gate_guard (by rfl) ?_; dsimp only)); at_builtin; refine Kd.R_append (Kd.int .u8) (w0 := w) w.heap.size rfl (.tmp 43) (.tmp 48) 49 5 (.int .u8 0) 1 rfl Try.underlying49 info5 rfl (by decide) (by omega) u8 x8_2 ((110 + (Int.tmod x10_2 13)) % 256) [.int .u8 ((110 + (Int.tmod x10_2 13)) % 256)] (fun k_ => some k_ ≠ (u7 : Value).ownBlock) (fun _ => False) rfl rfl ?aP (fun _ hk => hk.elim) ?aF ?aO ?aB ?aS ?aL ?_; (case aP => exact rfl); (case aB => exact (by repeat (first | (with_reducible first | exact HB.out | apply below_alloc | apply pw_below_drewN | apply below_drew1) | exact HB.out))); (case aF => exact (fun k_ hk => Kd.fresh' (Kd.R_lt (by (with_reducible repeat (first | apply Kd.R_alloc | apply Kd.R_drewN | apply Kd.R_drew)); exact HO_7.out)) k_ hk)); (case aO => exact (by (with_reducible repeat (first | apply Kd.R_alloc | apply Kd.R_drewN | apply Kd.R_drew)); exact HO_8.out)); (case aS => exact (below_size (by repeat (first | (with_reducible first | exact HB.out | apply below_alloc | apply pw_below_drewN | apply below_drew1) | exact HB.out)))); (case aL => have := LMc10.out; omega); intro v229 w11 ho hb hg hat; rw [← Ny228.out] at ho; have n0_ := Aside0.mk (Kd.R_after (ok := (fun _ => True)) (by (with_reducible repeat (first | apply Kd.R_alloc | apply Kd.R_drewN | apply Kd.R_drew)); exact Kd.R_mono HO_7.out (fun _ hk => ⟨trivial, hk⟩)) hg hat); have n1_ := Aside0.mk (hb); have n2_ := Aside0.mk (ho); clear HO_7; clear HB; clear HO_8; have HO_7 := n0_; have HB := n1_; have HO230 := n2_; clear n0_ n1_ n2_; clear ho hb hg hat))
                go_roundg k2
                case measure => have := HK1.out; have := HK2.out; omega
                case rel => exact ⟨(y228), (wrap64 (x10_2 + 1)), (by first | rfl | (simp; done) | (simp [*]; done)), H', ⟨by have := HK1.out; have := HK2.out; omega⟩, ⟨by (with_reducible repeat (first | apply Kd.R_alloc | apply Kd.R_drewN | apply Kd.R_drew)); exact Kd.R_mono HO_7.out (fun _ hk => hk.2)⟩, ⟨by (with_reducible repeat (first | apply Kd.R_alloc | apply Kd.R_drewN | apply Kd.R_drew)); exact HO230.out⟩, ⟨by repeat (first | (with_reducible first | exact HB.out | apply below_alloc | apply pw_below_drewN | apply below_drew1) | exact HB.out)⟩⟩
              · rw [if_neg c10] at H
                exact absurd H (by simp)
            · rw [if_neg c9] at H
              have c9b0 : decide (x10_2 < t224) = false := decide_eq_false c9
              clear c9
              replace H := Option.bind_eq_some_iff.mp H
              obtain ⟨⟨t231, t232⟩, A120, H⟩ := H
              replace H : ((diff_Common.f (strOfNums x7_1) (strOfNums x8_2)).bind fun bt233 => ((diff_Between.f (strOfNums x7_1) (strOfNums x8_2) 1 1).bind fun bt235 => (if t232 = 0 then (if bt233.2 = 0 then (if t231 = (wrap64 (t223 + t224)) then (jotterlaw17_DiffApart.j2 k2 t223 t224 a2 x7_1 (strOfNums x7_1) (strOfNums x8_2) bt235.1 bt235.2 (bt233.1.toList != ([] : List UInt8))) else (jotterlaw17_DiffApart.j2 k2 t223 t224 a2 x7_1 (strOfNums x7_1) (strOfNums x8_2) bt235.1 bt235.2 true)) else (jotterlaw17_DiffApart.j2 k2 t223 t224 a2 x7_1 (strOfNums x7_1) (strOfNums x8_2) bt235.1 bt235.2 true)) else (jotterlaw17_DiffApart.j2 k2 t223 t224 a2 x7_1 (strOfNums x7_1) (strOfNums x8_2) bt235.1 bt235.2 true)))) = some r := H
              have A12 := Aside0.mk A120
              clear A120
              replace H := Option.bind_eq_some_iff.mp H
              obtain ⟨⟨t233, t234⟩, A130, H⟩ := H
              replace H : ((diff_Between.f (strOfNums x7_1) (strOfNums x8_2) 1 1).bind fun bt235 => (if t232 = 0 then (if t234 = 0 then (if t231 = (wrap64 (t223 + t224)) then (jotterlaw17_DiffApart.j2 k2 t223 t224 a2 x7_1 (strOfNums x7_1) (strOfNums x8_2) bt235.1 bt235.2 (t233.toList != ([] : List UInt8))) else (jotterlaw17_DiffApart.j2 k2 t223 t224 a2 x7_1 (strOfNums x7_1) (strOfNums x8_2) bt235.1 bt235.2 true)) else (jotterlaw17_DiffApart.j2 k2 t223 t224 a2 x7_1 (strOfNums x7_1) (strOfNums x8_2) bt235.1 bt235.2 true)) else (jotterlaw17_DiffApart.j2 k2 t223 t224 a2 x7_1 (strOfNums x7_1) (strOfNums x8_2) bt235.1 bt235.2 true))) = some r := H
              have A13 := Aside0.mk A130
              clear A130
              replace H := Option.bind_eq_some_iff.mp H
              obtain ⟨⟨t235, t236⟩, A140, H⟩ := H
              replace H : (if t232 = 0 then (if t234 = 0 then (if t231 = (wrap64 (t223 + t224)) then (jotterlaw17_DiffApart.j2 k2 t223 t224 a2 x7_1 (strOfNums x7_1) (strOfNums x8_2) t235 t236 (t233.toList != ([] : List UInt8))) else (jotterlaw17_DiffApart.j2 k2 t223 t224 a2 x7_1 (strOfNums x7_1) (strOfNums x8_2) t235 t236 true)) else (jotterlaw17_DiffApart.j2 k2 t223 t224 a2 x7_1 (strOfNums x7_1) (strOfNums x8_2) t235 t236 true)) else (jotterlaw17_DiffApart.j2 k2 t223 t224 a2 x7_1 (strOfNums x7_1) (strOfNums x8_2) t235 t236 true)) = some r := H
              have A14 := Aside0.mk A140
              clear A140
              have HC15 := Aside0.mk H
              clear H
              have hcv16 := own_string (P := Try.prog) Try.underlying49 Try.underlying5 Try.underlying9 (Kd.own_of_R HO_7.out)
              have hcv17 := own_string (P := Try.prog) Try.underlying49 Try.underlying5 Try.underlying9 (Kd.own_of_R HO_8.out)
              go_upto_region 18 with (first | ((with_reducible refine gate_callee (f := 12) rfl ?_); refine goesL_ (some 57) rfl rfl Try.func12 (by kernel_rfl) rfl #[.string (strOfNums x7_1), .string (strOfNums x8_2)] rfl (by (try simp only [List.map_toArray, List.map_cons, List.map_nil]); first | done | rfl | (simp only [List.length_drop, List.length_take]; rfl)) ?_; (with_reducible refine (diff_Distance.calls (strOfNums x7_1) (strOfNums x8_2) t231 t232 _ A12.out).mono ?_); rintro e w18 ⟨rfl, hb⟩; refine ⟨_, rfl, ?_⟩; have n0_ := Aside0.mk (Kd.R_below (by (with_reducible repeat (first | apply Kd.R_alloc | apply Kd.R_drewN | apply Kd.R_drew)); exact HO_7.out) hb); have n1_ := Aside0.mk (Kd.R_below (by (with_reducible repeat (first | apply Kd.R_alloc | apply Kd.R_drewN | apply Kd.R_drew)); exact HO_8.out) hb); have n2_ := Aside0.mk (below_step (by repeat (first | (with_reducible first | exact HB.out | apply below_alloc | apply pw_below_drewN | apply below_drew1) | exact HB.out)) hb); clear HO_7; clear HO_8; clear HB; have HO_7 := n0_; have HO_8 := n1_; have HB := n2_; clear n0_ n1_ n2_; (try clear hb); (try clear hb2); (try clear hk); (try clear hi)) | ((with_reducible refine gate_callee (f := 13) rfl ?_); refine goesL_ (some 63) rfl rfl Try.func13 (by kernel_rfl) rfl #[.string (strOfNums x7_1), .string (strOfNums x8_2)] rfl (by (try simp only [List.map_toArray, List.map_cons, List.map_nil]); first | done | rfl | (simp only [List.length_drop, List.length_take]; rfl)) ?_; (with_reducible refine (diff_Common.calls (strOfNums x7_1) (strOfNums x8_2) t233 t234 _ A13.out).mono ?_); rintro e w19 ⟨rfl, hb⟩; refine ⟨_, rfl, ?_⟩; have n0_ := Aside0.mk (Kd.R_below (by (with_reducible repeat (first | apply Kd.R_alloc | apply Kd.R_drewN | apply Kd.R_drew)); exact HO_7.out) hb); have n1_ := Aside0.mk (Kd.R_below (by (with_reducible repeat (first | apply Kd.R_alloc | apply Kd.R_drewN | apply Kd.R_drew)); exact HO_8.out) hb); have n2_ := Aside0.mk (below_step (by repeat (first | (with_reducible first | exact HB.out | apply below_alloc | apply pw_below_drewN | apply below_drew1) | exact HB.out)) hb); clear HO_7; clear HO_8; clear HB; have HO_7 := n0_; have HO_8 := n1_; have HB := n2_; clear n0_ n1_ n2_; (try clear hb); (try clear hb2); (try clear hk); (try clear hi)) | ((with_reducible refine gate_callee (f := 16) rfl ?_); refine goesL_ (some 69) rfl rfl Try.func16 (by kernel_rfl) rfl #[.string (strOfNums x7_1), .string (strOfNums x8_2), .int .i64 1, .int .i64 1] rfl (by (try simp only [List.map_toArray, List.map_cons, List.map_nil]); first | done | rfl | (simp only [List.length_drop, List.length_take]; rfl)) ?_; (with_reducible refine (diff_Between.calls (strOfNums x7_1) (strOfNums x8_2) 1 1 t235 t236 _ A14.out).mono ?_); rintro e w20 ⟨v237, rfl, ho0, hb⟩; refine ⟨_, rfl, ?_⟩; have n0_ := Aside0.mk (Kd.R_below (by (with_reducible repeat (first | apply Kd.R_alloc | apply Kd.R_drewN | apply Kd.R_drew)); exact HO_7.out) hb); have n1_ := Aside0.mk (Kd.R_below (by (with_reducible repeat (first | apply Kd.R_alloc | apply Kd.R_drewN | apply Kd.R_drew)); exact HO_8.out) hb); have n2_ := Aside0.mk (Kd.R_lower ho0 (below_size (by repeat (first | (with_reducible first | exact HB.out | apply below_alloc | apply pw_below_drewN | apply below_drew1) | exact HB.out)))); have n3_ := Aside0.mk (below_step (by repeat (first | (with_reducible first | exact HB.out | apply below_alloc | apply pw_below_drewN | apply below_drew1) | exact HB.out)) hb); clear HO_7; clear HO_8; clear HB; have HO_7 := n0_; have HO_8 := n1_; have HO238 := n2_; have HB := n3_; clear n0_ n1_ n2_ n3_; (try clear hb); (try clear hb2); (try clear hk); (try clear hi); (try clear ho0)))
              (try simp only [Act.put, List.setIfInBounds_toArray, List.set_cons_zero, List.set_cons_succ])
              go_cut [88] (fun v88 wc => ∃ (kq : Nat) (x88_14 : Bool), v88 = .bool x88_14 ∧ Aside0 (jotterlaw17_DiffApart.j2 kq t223 t224 a2 x7_1 (strOfNums x7_1) (strOfNums x8_2) t235 t236 x88_14 = some r) ∧ Aside0 (kq ≤ k2) ∧ Aside0 (Kd.R (Kd.int .u8) 5 wc w.heap.size (fun _ => True) u7 x7_1) ∧ Aside0 (Kd.R k38 38 wc w.heap.size (fun _ => True) v237 t235) ∧ Aside0 (Below w.heap.size w wc))
              case first =>
                have H := HC15.out
                clear HC15
                by_cases c21 : t232 = 0
                · rw [if_pos c21] at H
                  have c21b0 : (t232 == 0) = true := beq_iff_eq.mpr c21
                  have c21b1 : (t232 != 0) = false := bne_eq_false_iff_eq.mpr c21
                  clear c21
                  (first | rw [c21b0] | (simp only [i64_w, i32_w]; rw [c21b0]) | skip)
                  by_cases c22 : t234 = 0
                  · rw [if_pos c22] at H
                    have c22b0 : (t234 == 0) = true := beq_iff_eq.mpr c22
                    have c22b1 : (t234 != 0) = false := bne_eq_false_iff_eq.mpr c22
                    clear c22
                    by_cases c23 : t231 = (wrap64 (t223 + t224))
                    · rw [if_pos c23] at H
                      have c23b0 : (t231 == (wrap64 (t223 + t224))) = true := beq_iff_eq.mpr c23
                      have c23b1 : (t231 != (wrap64 (t223 + t224))) = false := bne_eq_false_iff_eq.mpr c23
                      clear c23
                      have H' := Aside0.mk H
                      clear H
                      go_wp2
                      go_meet
                      case rel => exact ⟨_, ((t233.toList != ([] : List UInt8))), (by first | rfl | (simp; done) | (simp; exact jotterlaw17_DiffApart.isEmpty_ne _) | (simp [*]; done)), H', ⟨by have := HK1.out; have := HK2.out; first | omega | exact Nat.le_refl _⟩, ⟨by (with_reducible repeat (first | apply Kd.R_alloc | apply Kd.R_drewN | apply Kd.R_drew)); exact Kd.R_mono HO_7.out (fun _ hk => trivial)⟩, ⟨by (with_reducible repeat (first | apply Kd.R_alloc | apply Kd.R_drewN | apply Kd.R_drew)); exact HO238.out⟩, ⟨by repeat (first | (with_reducible first | exact HB.out | apply below_alloc | apply pw_below_drewN | apply below_drew1) | exact HB.out)⟩⟩
                    · rw [if_neg c23] at H
                      have c23b0 : (t231 == (wrap64 (t223 + t224))) = false := beq_eq_false_iff_ne.mpr c23
                      have c23b1 : (t231 != (wrap64 (t223 + t224))) = true := bne_iff_ne.mpr c23
                      have H' := Aside0.mk H
                      clear H
                      go_wp2
                      go_meet
                      case rel => exact ⟨_, (true), (by first | rfl | (simp; done) | (simp [*]; done)), H', ⟨by have := HK1.out; have := HK2.out; first | omega | exact Nat.le_refl _⟩, ⟨by (with_reducible repeat (first | apply Kd.R_alloc | apply Kd.R_drewN | apply Kd.R_drew)); exact Kd.R_mono HO_7.out (fun _ hk => trivial)⟩, ⟨by (with_reducible repeat (first | apply Kd.R_alloc | apply Kd.R_drewN | apply Kd.R_drew)); exact HO238.out⟩, ⟨by repeat (first | (with_reducible first | exact HB.out | apply below_alloc | apply pw_below_drewN | apply below_drew1) | exact HB.out)⟩⟩
                  · rw [if_neg c22] at H
                    have c22b0 : (t234 == 0) = false := beq_eq_false_iff_ne.mpr c22
                    have c22b1 : (t234 != 0) = true := bne_iff_ne.mpr c22
                    have H' := Aside0.mk H
                    clear H
                    go_wp2
                    go_meet
                    case rel => exact ⟨_, (true), (by first | rfl | (simp; done) | (simp [*]; done)), H', ⟨by have := HK1.out; have := HK2.out; first | omega | exact Nat.le_refl _⟩, ⟨by (with_reducible repeat (first | apply Kd.R_alloc | apply Kd.R_drewN | apply Kd.R_drew)); exact Kd.R_mono HO_7.out (fun _ hk => trivial)⟩, ⟨by (with_reducible repeat (first | apply Kd.R_alloc | apply Kd.R_drewN | apply Kd.R_drew)); exact HO238.out⟩, ⟨by repeat (first | (with_reducible first | exact HB.out | apply below_alloc | apply pw_below_drewN | apply below_drew1) | exact HB.out)⟩⟩
                · rw [if_neg c21] at H
                  have c21b0 : (t232 == 0) = false := beq_eq_false_iff_ne.mpr c21
                  have c21b1 : (t232 != 0) = true := bne_iff_ne.mpr c21
                  (first | rw [c21b0] | (simp only [i64_w, i32_w]; rw [c21b0]) | skip)
                  have H' := Aside0.mk H
                  clear H
                  go_wp2
                  go_meet
                  case rel => exact ⟨_, (true), (by first | rfl | (simp; done) | (simp [*]; done)), H', ⟨by have := HK1.out; have := HK2.out; first | omega | exact Nat.le_refl _⟩, ⟨by (with_reducible repeat (first | apply Kd.R_alloc | apply Kd.R_drewN | apply Kd.R_drew)); exact Kd.R_mono HO_7.out (fun _ hk => trivial)⟩, ⟨by (with_reducible repeat (first | apply Kd.R_alloc | apply Kd.R_drewN | apply Kd.R_drew)); exact HO238.out⟩, ⟨by repeat (first | (with_reducible first | exact HB.out | apply below_alloc | apply pw_below_drewN | apply below_drew1) | exact HB.out)⟩⟩
              case rest =>
                clear HC15
                try clear c1
                try clear hcv1
                try clear c2
                try clear p2
                try clear c6
                try clear c6b0
                try clear p6
                try clear c7
                try clear c8
                try clear c9
                try clear c9b0
                try clear c10
                try clear c12
                try clear c13
                try clear c16
                try clear hcv16
                try clear hcv17
                try clear c21
                try clear c21b0
                try clear c21b1
                try clear c22
                try clear c22b0
                try clear c22b1
                try clear c23
                try clear c23b0
                try clear c23b1
                try clear p2
                try clear p6
                obtain ⟨kq, x88_14, rfl, HA, HJ14, HO_7, HO_17, HB⟩ := hcut
                cases kq with
                | zero => exact absurd HA.out (by simp [jotterlaw17_DiffApart.j2])
                | succ kj14 =>
                  have H := HA.out
                  clear HA
                  simp only [jotterlaw17_DiffApart.j2] at H
                  by_cases c24 : x88_14 = true
                  · subst c24
                    have H1 : (some false) = some r := by rw [if_pos rfl] at H; exact H
                    clear H
                    have H := H1
                    clear H1
                    obtain rfl := Option.some.inj H
                    go_wp2
                    go_ret
                    exact ⟨by first | rfl | (simp [errW_none, errW_some] <;> rfl) | (simp [*, errW_none, errW_some] <;> rfl), by repeat (first | (with_reducible first | exact HB.out | apply below_alloc | apply pw_below_drewN | apply below_drew1) | exact HB.out)⟩
                  · replace c24 := Bool.eq_false_iff.mpr c24
                    subst c24
                    have H1 : (if (wrap64 (t223 + t224)) > 64 then (if t236 = 172 then (if (t235.length : Int) = 0 then (jotterlaw17_DiffApart.j3 kj14 t223 a2 x7_1 (strOfNums x7_1) (strOfNums x8_2) t235) else (some false)) else (some false)) else (if t236 = 0 then (if (t235.length : Int) = (wrap64 (t223 + t224)) then (jotterlaw17_DiffApart.j3 kj14 t223 a2 x7_1 (strOfNums x7_1) (strOfNums x8_2) t235) else (some false)) else (some false))) = some r := by rw [if_neg (show ¬ (false = true) by decide)] at H; exact H
                    clear H
                    have H := H1
                    clear H1
                    have HC25 := Aside0.mk H
                    clear H
                    go_upto_if 92 with (fail)
                    go_cut [] (fun wc => ∃ (kq : Nat), Aside0 (jotterlaw17_DiffApart.j3 kq t223 a2 x7_1 (strOfNums x7_1) (strOfNums x8_2) t235 = some r) ∧ Aside0 (kq ≤ kj14) ∧ Aside0 (Kd.R (Kd.int .u8) 5 wc w.heap.size (fun _ => True) u7 x7_1) ∧ Aside0 (Kd.R k38 38 wc w.heap.size (fun _ => True) v237 t235) ∧ Aside0 (Below w.heap.size w wc))
                    case first =>
                      have H := HC25.out
                      clear HC25
                      by_cases c26 : (wrap64 (t223 + t224)) > 64
                      · rw [if_pos c26] at H
                        have c26b0 : decide (64 < (wrap64 (t223 + t224))) = true := decide_eq_true c26
                        clear c26
                        (first | rw [c26b0] | (simp only [i64_w, i32_w]; rw [c26b0]) | skip)
                        by_cases c27 : t236 = 172
                        · rw [if_pos c27] at H
                          have c27b0 : (t236 == 172) = true := beq_iff_eq.mpr c27
                          have c27b1 : (t236 != 172) = false := bne_eq_false_iff_eq.mpr c27
                          clear c27
                          by_cases c28 : (t235.length : Int) = 0
                          · rw [if_pos c28] at H
                            have c28b0 : ((t235.length : Int) == 0) = true := beq_iff_eq.mpr c28
                            have c28b1 : ((t235.length : Int) != 0) = false := bne_eq_false_iff_eq.mpr c28
                            clear c28
                            have H' := Aside0.mk H
                            clear H
                            obtain ⟨Ao29, co29, eo29⟩ := Kd.R_slice HO_17.out
                            subst eo29
                            go_wp2
                            go_meet
                            case rel => exact ⟨_, H', ⟨by have := HK1.out; have := HK2.out; have := HJ14.out; first | omega | exact Nat.le_refl _⟩, ⟨by (with_reducible repeat (first | apply Kd.R_alloc | apply Kd.R_drewN | apply Kd.R_drew)); exact HO_7.out⟩, ⟨by (with_reducible repeat (first | apply Kd.R_alloc | apply Kd.R_drewN | apply Kd.R_drew)); exact HO_17.out⟩, ⟨by repeat (first | (with_reducible first | exact HB.out | apply below_alloc | apply pw_below_drewN | apply below_drew1) | exact HB.out)⟩⟩
                          · rw [if_neg c28] at H
                            have c28b0 : ((t235.length : Int) == 0) = false := beq_eq_false_iff_ne.mpr c28
                            have c28b1 : ((t235.length : Int) != 0) = true := bne_iff_ne.mpr c28
                            have c28b2 : ¬ (t235 = []) := fun h_ => c28 (by rw [h_]; rfl)
                            obtain rfl := Option.some.inj H
                            obtain ⟨Ao30, co30, eo30⟩ := Kd.R_slice HO_17.out
                            subst eo30
                            go_wp2
                            go_ret
                            exact ⟨by first | rfl | (simp [errW_none, errW_some] <;> rfl) | (simp [*, errW_none, errW_some] <;> rfl), by repeat (first | (with_reducible first | exact HB.out | apply below_alloc | apply pw_below_drewN | apply below_drew1) | exact HB.out)⟩
                        · rw [if_neg c27] at H
                          have c27b0 : (t236 == 172) = false := beq_eq_false_iff_ne.mpr c27
                          have c27b1 : (t236 != 172) = true := bne_iff_ne.mpr c27
                          obtain rfl := Option.some.inj H
                          go_wp2
                          go_ret
                          exact ⟨by first | rfl | (simp [errW_none, errW_some] <;> rfl) | (simp [*, errW_none, errW_some] <;> rfl), by repeat (first | (with_reducible first | exact HB.out | apply below_alloc | apply pw_below_drewN | apply below_drew1) | exact HB.out)⟩
                      · rw [if_neg c26] at H
                        have c26b0 : decide (64 < (wrap64 (t223 + t224))) = false := decide_eq_false c26
                        clear c26
                        (first | rw [c26b0] | (simp only [i64_w, i32_w]; rw [c26b0]) | skip)
                        by_cases c31 : t236 = 0
                        · rw [if_pos c31] at H
                          have c31b0 : (t236 == 0) = true := beq_iff_eq.mpr c31
                          have c31b1 : (t236 != 0) = false := bne_eq_false_iff_eq.mpr c31
                          clear c31
                          by_cases c32 : (t235.length : Int) = (wrap64 (t223 + t224))
                          · rw [if_pos c32] at H
                            have c32b0 : ((t235.length : Int) == (wrap64 (t223 + t224))) = true := beq_iff_eq.mpr c32
                            have c32b1 : ((t235.length : Int) != (wrap64 (t223 + t224))) = false := bne_eq_false_iff_eq.mpr c32
                            clear c32
                            have H' := Aside0.mk H
                            clear H
                            obtain ⟨Ao33, co33, eo33⟩ := Kd.R_slice HO_17.out
                            subst eo33
                            go_wp2
                            go_meet
                            case rel => exact ⟨_, H', ⟨by have := HK1.out; have := HK2.out; have := HJ14.out; first | omega | exact Nat.le_refl _⟩, ⟨by (with_reducible repeat (first | apply Kd.R_alloc | apply Kd.R_drewN | apply Kd.R_drew)); exact HO_7.out⟩, ⟨by (with_reducible repeat (first | apply Kd.R_alloc | apply Kd.R_drewN | apply Kd.R_drew)); exact HO_17.out⟩, ⟨by repeat (first | (with_reducible first | exact HB.out | apply below_alloc | apply pw_below_drewN | apply below_drew1) | exact HB.out)⟩⟩
                          · rw [if_neg c32] at H
                            have c32b0 : ((t235.length : Int) == (wrap64 (t223 + t224))) = false := beq_eq_false_iff_ne.mpr c32
                            have c32b1 : ((t235.length : Int) != (wrap64 (t223 + t224))) = true := bne_iff_ne.mpr c32
                            obtain rfl := Option.some.inj H
                            obtain ⟨Ao34, co34, eo34⟩ := Kd.R_slice HO_17.out
                            subst eo34
                            go_wp2
                            go_ret
                            exact ⟨by first | rfl | (simp [errW_none, errW_some] <;> rfl) | (simp [*, errW_none, errW_some] <;> rfl), by repeat (first | (with_reducible first | exact HB.out | apply below_alloc | apply pw_below_drewN | apply below_drew1) | exact HB.out)⟩
                        · rw [if_neg c31] at H
                          have c31b0 : (t236 == 0) = false := beq_eq_false_iff_ne.mpr c31
                          have c31b1 : (t236 != 0) = true := bne_iff_ne.mpr c31
                          obtain rfl := Option.some.inj H
                          go_wp2
                          go_ret
                          exact ⟨by first | rfl | (simp [errW_none, errW_some] <;> rfl) | (simp [*, errW_none, errW_some] <;> rfl), by repeat (first | (with_reducible first | exact HB.out | apply below_alloc | apply pw_below_drewN | apply below_drew1) | exact HB.out)⟩
                    case rest =>
                      clear HC25
                      try clear c1
                      try clear hcv1
                      try clear c2
                      try clear p2
                      try clear c3
                      try clear c6
                      try clear c6b0
                      try clear p6
                      try clear c7
                      try clear c8
                      try clear c9
                      try clear c9b0
                      try clear c10
                      try clear c12
                      try clear c13
                      try clear c16
                      try clear hcv16
                      try clear hcv17
                      try clear c21
                      try clear c21b0
                      try clear c21b1
                      try clear c22
                      try clear c22b0
                      try clear c22b1
                      try clear c23
                      try clear c23b0
                      try clear c23b1
                      try clear c24
                      try clear c26
                      try clear c26b0
                      try clear c27
                      try clear c27b0
                      try clear c27b1
                      try clear c28
                      try clear c28b0
                      try clear c28b1
                      try clear c28b2
                      try clear c31
                      try clear c31b0
                      try clear c31b1
                      try clear c32
                      try clear c32b0
                      try clear c32b1
                      try clear p2
                      try clear p6
                      obtain ⟨kq, HA, HJ24, HO_7, HO_17, HB⟩ := hcut
                      cases kq with
                      | zero => exact absurd HA.out (by simp [jotterlaw17_DiffApart.j3])
                      | succ kj24 =>
                        have H := HA.out
                        clear HA
                        simp only [jotterlaw17_DiffApart.j3] at H
                        have H' := Aside0.mk H
                        clear H
                        go_wp2
                        go_loopg [19] kj24 (fun kq v19 w' => ∃ (x19_5 : Int), v19 = .int .i64 x19_5 ∧ Aside0 (jotterlaw17_DiffApart.l2 kq t223 a2 x7_1 (strOfNums x7_1) (strOfNums x8_2) t235 x19_5 = some r) ∧ Aside0 (kq ≤ kj24) ∧ Aside0 (Kd.R (Kd.int .u8) 5 w' w.heap.size (fun _ => True) u7 x7_1) ∧ Aside0 (Kd.R k38 38 w' w.heap.size (fun _ => True) v237 t235) ∧ Aside0 (Below w.heap.size w w'))
                        case atStart => exact ⟨(0), (by first | rfl | (simp; done) | (simp [*]; done)), H', ⟨Nat.le_refl _⟩, ⟨by (with_reducible repeat (first | apply Kd.R_alloc | apply Kd.R_drewN | apply Kd.R_drew)); exact HO_7.out⟩, ⟨by (with_reducible repeat (first | apply Kd.R_alloc | apply Kd.R_drewN | apply Kd.R_drew)); exact HO_17.out⟩, ⟨by repeat (first | (with_reducible first | exact HB.out | apply below_alloc | apply pw_below_drewN | apply below_drew1) | exact HB.out)⟩⟩
                        case round =>
                          clear H'
                          try clear c1
                          try clear hcv1
                          try clear c2
                          try clear p2
                          try clear c3
                          try clear c6
                          try clear c6b0
                          try clear p6
                          try clear c7
                          try clear c8
                          try clear c9
                          try clear c9b0
                          try clear c10
                          try clear c12
                          try clear c13
                          try clear c16
                          try clear hcv16
                          try clear hcv17
                          try clear c21
                          try clear c21b0
                          try clear c21b1
                          try clear c22
                          try clear c22b0
                          try clear c22b1
                          try clear c23
                          try clear c23b0
                          try clear c23b1
                          try clear c24
                          try clear c26
                          try clear c26b0
                          try clear c27
                          try clear c27b0
                          try clear c27b1
                          try clear c28
                          try clear c28b0
                          try clear c28b1
                          try clear c28b2
                          try clear c31
                          try clear c31b0
                          try clear c31b1
                          try clear c32
                          try clear c32b0
                          try clear c32b1
                          try clear p2
                          try clear p6
                          obtain ⟨x19_5, rfl, HA, HK5, HO_7, HO_17, HB⟩ := hrel
                          cases gk with
                          | zero => exact absurd HA.out (by simp [jotterlaw17_DiffApart.l2])
                          | succ k5 =>
                            have H := HA.out
                            clear HA
                            simp only [jotterlaw17_DiffApart.l2] at H
                            by_cases c35 : x19_5 < (t235.length : Int)
                            · rw [if_pos c35] at H
                              have c35b0 : decide (x19_5 < (t235.length : Int)) = true := decide_eq_true c35
                              clear c35
                              by_cases c36 : x19_5 ≥ t223
                              · rw [if_pos c36] at H
                                have c36b0 : decide (t223 ≤ x19_5) = true := decide_eq_true c36
                                clear c36
                                obtain ⟨ji37, hji37⟩ : ∃ j_ : Int, (wrap64 (x19_5 - t223)) = j_ := ⟨_, rfl⟩
                                replace H : (if 0 ≤ (ji37) then (if (ji37) < ((strOfNums x8_2).size : Int) then (if 0 ≤ x19_5 then ((jotterlaw17_one.f ((rd_T38 t235 x19_5).f0) ((rd_T38 t235 x19_5).f1) ((rd_T38 t235 x19_5).f2) ((rd_T38 t235 x19_5).f3) ((rd_T38 t235 x19_5).f4) 1 (ji37) (bt (strOfNums x8_2) (ji37)) 1 (wrap64 (x19_5 + 1))).bind fun t241 => (if t241 = true then (jotterlaw17_DiffApart.l2 k5 t223 a2 x7_1 (strOfNums x7_1) (strOfNums x8_2) t235 (wrap64 (x19_5 + 1))) else (some false))) else (none)) else (none)) else (none)) = some r := by first | (rw [hji37] at H; exact H) | (simp only [hji37] at H ⊢; exact H)
                                have hji37w : (IntKind.i64.wrap (x19_5 - t223)) = ji37 := (i64_w _).trans hji37
                                by_cases c38 : 0 ≤ (ji37)
                                · rw [if_pos c38] at H
                                  have c38b0 : decide (0 ≤ (ji37)) = true := decide_eq_true c38
                                  clear c38
                                  by_cases c39 : (ji37) < ((strOfNums x8_2).size : Int)
                                  · rw [if_pos c39] at H
                                    have c39b0 : decide ((ji37) < ((strOfNums x8_2).size : Int)) = true := decide_eq_true c39
                                    clear c39
                                    by_cases c41 : 0 ≤ x19_5
                                    · rw [if_pos c41] at H
                                      have c41b0 : decide (0 ≤ x19_5) = true := decide_eq_true c41
                                      clear c41
                                      replace H := Option.bind_eq_some_iff.mp H
                                      obtain ⟨t241, A420, H⟩ := H
                                      replace H : (if t241 = true then (jotterlaw17_DiffApart.l2 k5 t223 a2 x7_1 (strOfNums x7_1) (strOfNums x8_2) t235 (wrap64 (x19_5 + 1))) else (some false)) = some r := H
                                      have A42 := Aside0.mk A420
                                      clear A420
                                      by_cases c43 : t241 = true
                                      · subst c43
                                        have H1 : (jotterlaw17_DiffApart.l2 k5 t223 a2 x7_1 (strOfNums x7_1) (strOfNums x8_2) t235 (wrap64 (x19_5 + 1))) = some r := by rw [if_pos rfl] at H; exact H
                                        clear H
                                        have H := H1
                                        clear H1
                                        have H' := Aside0.mk H
                                        clear H
                                        obtain ⟨Ao44, co44, eo44⟩ := Kd.R_slice HO_17.out
                                        subst eo44
                                        go_upto_if 121 with (first | ((with_reducible refine gate_dst (N := 20) rfl ?_); (try (refine gate_guard (by rfl) ?_; dsimp only)); refine box_event ?hg (N := 20) ?hd (cs := #[.int .i64 0, .int .i64 0, .int .u8 0, .int .i64 0, .int .i64 0]) (t := 38) ?hr ?_; (case hd => rfl); (case hg => rfl); (case hr => first | (go_simp; done) | (go_simp; rfl)); intro gb239 hg w45 hbox hb; have n0_ := Aside0.mk (Kd.R_below (by (with_reducible repeat (first | apply Kd.R_alloc | apply Kd.R_drewN | apply Kd.R_drew)); exact HO_7.out) hb); have n1_ := Aside0.mk (Kd.R_below (Kd.R_elderB (by (with_reducible repeat (first | apply Kd.R_alloc | apply Kd.R_drewN | apply Kd.R_drew)); exact HO_17.out) gb239 (Nat.le_of_eq hg.symm)) hb); have n2_ := Aside0.mk (below_step (by repeat (first | (with_reducible first | exact HB.out | apply below_alloc | apply pw_below_drewN | apply below_drew1) | exact HB.out)) hb); have n3_ := Aside0.mk (hbox); have n4_ := Aside0.mk ((by rw [hg]; exact (below_size (by repeat (first | (with_reducible first | exact HB.out | apply below_alloc | apply pw_below_drewN | apply below_drew1) | exact HB.out))) : w.heap.size ≤ gb239)); have n5_ := Aside0.mk ((by rw [hg]; exact (below_size (by repeat (first | (with_reducible first | exact HB.out | apply below_alloc | apply pw_below_drewN | apply below_drew1) | exact HB.out))) : w.heap.size ≤ gb239)); clear HO_7; clear HO_17; clear HB; have HO_7 := n0_; have HO_17 := n1_; have HB := n2_; have BK239 := n3_; have GW239 := n4_; have GE239 := n5_; clear n0_ n1_ n2_ n3_ n4_ n5_; clear hb hbox hg; have hcz46_0 : w45.cell? ⟨gb239, 0, none⟩ = some (.int .i64 0) := (blk_cell BK239.out 0).trans rfl; have hcz46_1 : w45.cell? ⟨gb239, 1, none⟩ = some (.int .i64 0) := (blk_cell BK239.out 1).trans rfl; have hcz46_2 : w45.cell? ⟨gb239, 2, none⟩ = some (.int .u8 0) := (blk_cell BK239.out 2).trans rfl; have hcz46_3 : w45.cell? ⟨gb239, 3, none⟩ = some (.int .i64 0) := (blk_cell BK239.out 3).trans rfl; have hcz46_4 : w45.cell? ⟨gb239, 4, none⟩ = some (.int .i64 0) := (blk_cell BK239.out 4).trans rfl; have hfz46_0 := blk_frozen BK239.out 0; have hfz46_1 := blk_frozen BK239.out 1; have hfz46_2 := blk_frozen BK239.out 2; have hfz46_3 := blk_frozen BK239.out 3; have hfz46_4 := blk_frozen BK239.out 4))
                                        obtain ⟨wn1, hwn⟩ : ∃ wn, wn = ((((w45.setCell ⟨gb239, 0, none⟩ (.int .i64 2)).setCell ⟨gb239, 1, none⟩ (.int .i64 0)).setCell ⟨gb239, 2, none⟩ (.int .u8 0)).setCell ⟨gb239, 3, none⟩ (.int .i64 1)).setCell ⟨gb239, 4, none⟩ (.int .i64 (wrap64 (x19_5 + 1))) := ⟨_, rfl⟩
                                        rw [← hwn]
                                        have n0_ := Aside0.mk (show Kd.R (Kd.int .u8) 5 wn1 w.heap.size (fun _ => True) u7 x7_1 by rw [hwn]; exact Kd.R_mono ((Kd.R_far (p := ⟨gb239, 4, none⟩) (Kd.R_far (p := ⟨gb239, 3, none⟩) (Kd.R_far (p := ⟨gb239, 2, none⟩) (Kd.R_far (p := ⟨gb239, 1, none⟩) (Kd.R_far (p := ⟨gb239, 0, none⟩) (Kd.R_types HO_7.out BK239.out (by decide)) (fun _ hk => hk.2) (.int .i64 2)) (fun _ hk => hk.2) (.int .i64 0)) (fun _ hk => hk.2) (.int .u8 0)) (fun _ hk => hk.2) (.int .i64 1)) (fun _ hk => hk.2) (.int .i64 (wrap64 (x19_5 + 1))))) (fun _ _ => trivial))
                                        have n1_ := Aside0.mk (show Kd.R k38 38 wn1 w.heap.size (fun k_ => True ∧ k_ ≠ gb239) (.slice Ao44 t235.length co44) t235 by rw [hwn]; exact Kd.R_mono ((Kd.R_far (p := ⟨gb239, 4, none⟩) (Kd.R_far (p := ⟨gb239, 3, none⟩) (Kd.R_far (p := ⟨gb239, 2, none⟩) (Kd.R_far (p := ⟨gb239, 1, none⟩) (Kd.R_far (p := ⟨gb239, 0, none⟩) (Kd.R_mono HO_17.out (fun k_ hk => (⟨hk, hk.2⟩ : _ ∧ k_ ≠ gb239))) (fun _ hk => hk.2) (.int .i64 2)) (fun _ hk => hk.2) (.int .i64 0)) (fun _ hk => hk.2) (.int .u8 0)) (fun _ hk => hk.2) (.int .i64 1)) (fun _ hk => hk.2) (.int .i64 (wrap64 (x19_5 + 1))))) (fun _ hk => ⟨trivial, hk.2⟩))
                                        have n2_ := Aside0.mk (show Below w.heap.size w wn1 by rw [hwn]; repeat (first | exact HB.out | refine below_set ?_ GE239.out))
                                        have n3_ := Aside0.mk (show wn1.heap[gb239]? = some (.cells #[.int .i64 2, .int .i64 0, .int .u8 0, .int .i64 1, .int .i64 (wrap64 (x19_5 + 1))] 38 (0, 0)) by rw [hwn]; refine blk_put (cs := #[.int .i64 2, .int .i64 0, .int .u8 0, .int .i64 1, .int .i64 0]) ?_ 4 _ rfl; refine blk_put (cs := #[.int .i64 2, .int .i64 0, .int .u8 0, .int .i64 0, .int .i64 0]) ?_ 3 _ rfl; refine blk_put (cs := #[.int .i64 2, .int .i64 0, .int .u8 0, .int .i64 0, .int .i64 0]) ?_ 2 _ rfl; refine blk_put (cs := #[.int .i64 2, .int .i64 0, .int .u8 0, .int .i64 0, .int .i64 0]) ?_ 1 _ rfl; refine blk_put (cs := #[.int .i64 0, .int .i64 0, .int .u8 0, .int .i64 0, .int .i64 0]) ?_ 0 _ rfl; exact BK239.out)
                                        clear HO_7 HO_17 HB BK239 hwn hcz46_0 hfz46_0 hcz46_1 hfz46_1 hcz46_2 hfz46_2 hcz46_3 hfz46_3 hcz46_4 hfz46_4
                                        have HO_7 := n0_
                                        have HO_17 := n1_
                                        have HB := n2_
                                        have BK239 := n3_
                                        clear n0_ n1_ n2_ n3_
                                        have hcz46_0 : wn1.cell? ⟨gb239, 0, none⟩ = some (.int .i64 2) := (blk_cell BK239.out 0).trans rfl
                                        have hfz46_0 := blk_frozen BK239.out 0
                                        have hcz46_1 : wn1.cell? ⟨gb239, 1, none⟩ = some (.int .i64 0) := (blk_cell BK239.out 1).trans rfl
                                        have hfz46_1 := blk_frozen BK239.out 1
                                        have hcz46_2 : wn1.cell? ⟨gb239, 2, none⟩ = some (.int .u8 0) := (blk_cell BK239.out 2).trans rfl
                                        have hfz46_2 := blk_frozen BK239.out 2
                                        have hcz46_3 : wn1.cell? ⟨gb239, 3, none⟩ = some (.int .i64 1) := (blk_cell BK239.out 3).trans rfl
                                        have hfz46_3 := blk_frozen BK239.out 3
                                        have hcz46_4 : wn1.cell? ⟨gb239, 4, none⟩ = some (.int .i64 (wrap64 (x19_5 + 1))) := (blk_cell BK239.out 4).trans rfl
                                        have hfz46_4 := blk_frozen BK239.out 4
                                        have p40 : 0 ≤ ((ji37) : Int) := of_decide_eq_true (by first | (with_reducible assumption) | assumption)
                                        have q40 : (ji37) < ((strOfNums x8_2).size : Int) := of_decide_eq_true (by first | (with_reducible assumption) | assumption)
                                        have hx40 := bt_at (strOfNums x8_2) (ji37)
                                        replace p40 := eq_true p40
                                        replace q40 := eq_true q40
                                        try go_wp2
                                        have n0_ : Aside0 (Kd.R (Kd.int .u8) 5 (((((wn1.setCell ⟨gb239, 0, none⟩ (.int .i64 1)).setCell ⟨gb239, 1, none⟩ (.int .i64 ji37)).setCell ⟨gb239, 2, none⟩ (.int .u8 (bt (strOfNums x8_2) (ji37)))).setCell ⟨gb239, 3, none⟩ (.int .i64 1)).setCell ⟨gb239, 4, none⟩ (.int .i64 (wrap64 (x19_5 + 1)))) w.heap.size (fun _ => True) u7 x7_1) := ⟨by (with_reducible repeat (first | apply Kd.R_alloc | apply Kd.R_drewN | apply Kd.R_drew)); exact Kd.R_mono (Kd.R_far (p := ⟨gb239, 4, none⟩) (Kd.R_far (p := ⟨gb239, 3, none⟩) (Kd.R_far (p := ⟨gb239, 2, none⟩) (Kd.R_far (p := ⟨gb239, 1, none⟩) (Kd.R_far (p := ⟨gb239, 0, none⟩) (Kd.R_types HO_7.out BK239.out (by decide)) (fun _ hk => hk.2) (.int .i64 1)) (fun _ hk => hk.2) (.int .i64 ji37)) (fun _ hk => hk.2) (.int .u8 (bt (strOfNums x8_2) (ji37)))) (fun _ hk => hk.2) (.int .i64 1)) (fun _ hk => hk.2) (.int .i64 (wrap64 (x19_5 + 1)))) (fun _ hk => trivial)⟩
                                        have n1_ : Aside0 (Kd.R k38 38 (((((wn1.setCell ⟨gb239, 0, none⟩ (.int .i64 1)).setCell ⟨gb239, 1, none⟩ (.int .i64 ji37)).setCell ⟨gb239, 2, none⟩ (.int .u8 (bt (strOfNums x8_2) (ji37)))).setCell ⟨gb239, 3, none⟩ (.int .i64 1)).setCell ⟨gb239, 4, none⟩ (.int .i64 (wrap64 (x19_5 + 1)))) w.heap.size (fun k_ => k_ ≠ gb239) (.slice Ao44 t235.length co44) t235) := ⟨by (with_reducible repeat (first | apply Kd.R_alloc | apply Kd.R_drewN | apply Kd.R_drew)); exact Kd.R_mono (Kd.R_far (p := ⟨gb239, 4, none⟩) (Kd.R_far (p := ⟨gb239, 3, none⟩) (Kd.R_far (p := ⟨gb239, 2, none⟩) (Kd.R_far (p := ⟨gb239, 1, none⟩) (Kd.R_far (p := ⟨gb239, 0, none⟩) (Kd.R_mono HO_17.out (fun k_ hk => (⟨hk, hk.2⟩ : _ ∧ k_ ≠ gb239))) (fun _ hk => hk.2) (.int .i64 1)) (fun _ hk => hk.2) (.int .i64 ji37)) (fun _ hk => hk.2) (.int .u8 (bt (strOfNums x8_2) (ji37)))) (fun _ hk => hk.2) (.int .i64 1)) (fun _ hk => hk.2) (.int .i64 (wrap64 (x19_5 + 1)))) (fun _ hk => hk.1.2)⟩
                                        have n2_ : Aside0 ((((((wn1.setCell ⟨gb239, 0, none⟩ (.int .i64 1)).setCell ⟨gb239, 1, none⟩ (.int .i64 ji37)).setCell ⟨gb239, 2, none⟩ (.int .u8 (bt (strOfNums x8_2) (ji37)))).setCell ⟨gb239, 3, none⟩ (.int .i64 1)).setCell ⟨gb239, 4, none⟩ (.int .i64 (wrap64 (x19_5 + 1)))).heap[gb239]? = some (.cells #[.int .i64 1, .int .i64 ji37, .int .u8 (bt (strOfNums x8_2) (ji37)), .int .i64 1, .int .i64 (wrap64 (x19_5 + 1))] 38 (0, 0))) := ⟨by (with_reducible repeat (first | refine blk_drewN ?_ _ | refine blk_drew ?_ | refine blk_alloc ?_ _)); refine blk_put (cs := #[.int .i64 1, .int .i64 ji37, .int .u8 (bt (strOfNums x8_2) (ji37)), .int .i64 1, .int .i64 (wrap64 (x19_5 + 1))]) ?_ 4 _ rfl; (with_reducible repeat (first | refine blk_drewN ?_ _ | refine blk_drew ?_ | refine blk_alloc ?_ _)); refine blk_put (cs := #[.int .i64 1, .int .i64 ji37, .int .u8 (bt (strOfNums x8_2) (ji37)), .int .i64 1, .int .i64 (wrap64 (x19_5 + 1))]) ?_ 3 _ rfl; (with_reducible repeat (first | refine blk_drewN ?_ _ | refine blk_drew ?_ | refine blk_alloc ?_ _)); refine blk_put (cs := #[.int .i64 1, .int .i64 ji37, .int .u8 0, .int .i64 1, .int .i64 (wrap64 (x19_5 + 1))]) ?_ 2 _ rfl; (with_reducible repeat (first | refine blk_drewN ?_ _ | refine blk_drew ?_ | refine blk_alloc ?_ _)); refine blk_put (cs := #[.int .i64 1, .int .i64 0, .int .u8 0, .int .i64 1, .int .i64 (wrap64 (x19_5 + 1))]) ?_ 1 _ rfl; (with_reducible repeat (first | refine blk_drewN ?_ _ | refine blk_drew ?_ | refine blk_alloc ?_ _)); refine blk_put (cs := #[.int .i64 2, .int .i64 0, .int .u8 0, .int .i64 1, .int .i64 (wrap64 (x19_5 + 1))]) ?_ 0 _ rfl; (with_reducible repeat (first | refine blk_drewN ?_ _ | refine blk_drew ?_ | refine blk_alloc ?_ _)); exact BK239.out⟩
                                        have n3_ : Aside0 (Below w.heap.size w (((((wn1.setCell ⟨gb239, 0, none⟩ (.int .i64 1)).setCell ⟨gb239, 1, none⟩ (.int .i64 ji37)).setCell ⟨gb239, 2, none⟩ (.int .u8 (bt (strOfNums x8_2) (ji37)))).setCell ⟨gb239, 3, none⟩ (.int .i64 1)).setCell ⟨gb239, 4, none⟩ (.int .i64 (wrap64 (x19_5 + 1))))) := ⟨by repeat (first | (with_reducible first | exact HB.out | apply below_alloc | apply pw_below_drewN | apply below_drew1 | refine below_set ?_ GE239.out) | exact HB.out)⟩
                                        (try clear HO_7)
                                        (try clear HO_17)
                                        (try clear BK239)
                                        (try clear HB)
                                        generalize (((((wn1.setCell ⟨gb239, 0, none⟩ (.int .i64 1)).setCell ⟨gb239, 1, none⟩ (.int .i64 ji37)).setCell ⟨gb239, 2, none⟩ (.int .u8 (bt (strOfNums x8_2) (ji37)))).setCell ⟨gb239, 3, none⟩ (.int .i64 1)).setCell ⟨gb239, 4, none⟩ (.int .i64 (wrap64 (x19_5 + 1)))) = w47 at n0_ n1_ n2_ n3_ ⊢
                                        have HO_7 := n0_
                                        have HO_17 := n1_
                                        have BK239 := n2_
                                        have HB := n3_
                                        clear n0_ n1_ n2_ n3_
                                        have n0_ := Aside0.mk (Kd.R_drew HO_7.out)
                                        have n1_ := Aside0.mk (Kd.R_drew HO_17.out)
                                        have n2_ := Aside0.mk (blk_drew BK239.out)
                                        have n3_ := Aside0.mk (below_drew1 HB.out)
                                        clear HO_7
                                        clear HO_17
                                        clear BK239
                                        clear HB
                                        have HO_7 := n0_
                                        have HO_17 := n1_
                                        have BK239 := n2_
                                        have HB := n3_
                                        clear n0_ n1_ n2_ n3_
                                        have p240 : 0 ≤ (x19_5 : Int) := of_decide_eq_true (by first | (with_reducible assumption) | assumption)
                                        have q240 : x19_5 < (t235.length : Int) := of_decide_eq_true (by first | (with_reducible assumption) | assumption)
                                        obtain ⟨ad240, e240, hx240_0, hx240_1, hx240_2, hx240_3, hx240_4⟩ := at_T38 (Kd.R_reads' HO_17.out).2.2 x19_5 p240 q240
                                        cases e240
                                        replace p240 := eq_true p240
                                        replace q240 := eq_true q240
                                        refine start_ (n := 7) (S := fun w' => w'.cell? ⟨gb239, 0, none⟩ = some (.int .i64 1) ∧ w'.cell? ⟨gb239, 1, none⟩ = some (.int .i64 ji37) ∧ w'.cell? ⟨gb239, 2, none⟩ = some (.int .u8 (bt (strOfNums x8_2) (ji37))) ∧ w'.cell? ⟨gb239, 3, none⟩ = some (.int .i64 1) ∧ w'.cell? ⟨gb239, 4, none⟩ = some (.int .i64 (wrap64 (x19_5 + 1))) ∧ w'.cell? (ad240.add ((x19_5).toNat * 5)) = some (.int .i64 ((rd_T38 t235 x19_5).f0)) ∧ w'.cell? ⟨(ad240.add ((x19_5).toNat * 5)).block, (ad240.add ((x19_5).toNat * 5)).off + 1, none⟩ = some (.int .i64 ((rd_T38 t235 x19_5).f1)) ∧ w'.cell? ⟨(ad240.add ((x19_5).toNat * 5)).block, (ad240.add ((x19_5).toNat * 5)).off + 2, none⟩ = some (.int .u8 ((rd_T38 t235 x19_5).f2)) ∧ w'.cell? ⟨(ad240.add ((x19_5).toNat * 5)).block, (ad240.add ((x19_5).toNat * 5)).off + 3, none⟩ = some (.int .i64 ((rd_T38 t235 x19_5).f3)) ∧ w'.cell? ⟨(ad240.add ((x19_5).toNat * 5)).block, (ad240.add ((x19_5).toNat * 5)).off + 4, none⟩ = some (.int .i64 ((rd_T38 t235 x19_5).f4))) (ds := []) #[false, false, false, false, false, false, false] (by kernel_rfl) rfl rfl ⟨(blk_cell BK239.out 0).trans rfl, (blk_cell BK239.out 1).trans rfl, (blk_cell BK239.out 2).trans rfl, (blk_cell BK239.out 3).trans rfl, (blk_cell BK239.out 4).trans rfl, hx240_0, hx240_1, hx240_2, hx240_3, hx240_4⟩ (fun hHeld => ?_)
                                        generalize w47.drew = w48 at HO_7 HO_17 BK239 HB hx240_0 hx240_1 hx240_2 hx240_3 hx240_4 hHeld ⊢
                                        refine pure_ (i := 0) (N := some 133) (v := ?_) (a' := ?_) #[true, false, false, false, false, false, false] rfl rfl (by kernel_rfl) (fun _ _ _ h => h) (Or.inl ⟨by rfl, ?_⟩) ?_ ?_
                                        rotate_left
                                        · intro w'
                                          go_simp
                                          with_reducible rfl
                                        rotate_left
                                        · simp only [Act.put, List.setIfInBounds_toArray, List.set_cons_zero, List.set_cons_succ, i64_w, i32_w]
                                          rfl
                                        refine pure_ (i := 1) (N := some 134) (v := ?_) (a' := ?_) #[true, true, false, false, false, false, false] rfl rfl (by kernel_rfl) (fun _ _ _ h => h) (Or.inl ⟨by rfl, ?_⟩) ?_ ?_
                                        rotate_left
                                        · intro w'
                                          go_simp
                                          with_reducible rfl
                                        rotate_left
                                        · simp only [Act.put, List.setIfInBounds_toArray, List.set_cons_zero, List.set_cons_succ, i64_w, i32_w]
                                          rfl
                                        refine pure_ (i := 2) (N := some 135) (v := ?_) (a' := ?_) #[true, true, true, false, false, false, false] rfl rfl (by kernel_rfl) (fun _ _ _ h => h) (Or.inl ⟨by rfl, ?_⟩) ?_ ?_
                                        rotate_left
                                        · intro w'
                                          go_simp
                                          with_reducible rfl
                                        rotate_left
                                        · simp only [Act.put, List.setIfInBounds_toArray, List.set_cons_zero, List.set_cons_succ, i64_w, i32_w]
                                          rfl
                                        refine take_ (i := 3) (N := some 136) (v := ?_) (a' := ?_) #[true, true, true, true, false, false, false] rfl rfl (by kernel_rfl) (fun _ _ _ h => h) (Or.inl ⟨by rfl, ?_⟩) hHeld ?_ ?_
                                        rotate_left
                                        · rintro w' ⟨s0, s1, s2, s3, s4, s5, s6, s7, s8, s9⟩
                                          go_simp
                                          with_reducible rfl
                                        rotate_left
                                        · simp only [Act.put, List.setIfInBounds_toArray, List.set_cons_zero, List.set_cons_succ, i64_w, i32_w]
                                          rfl
                                        refine take_ (i := 4) (N := some 137) (v := ?_) (a' := ?_) #[true, true, true, true, true, false, false] rfl rfl (by kernel_rfl) (fun _ _ _ h => h) (Or.inl ⟨by rfl, ?_⟩) hHeld ?_ ?_
                                        rotate_left
                                        · rintro w' ⟨s0, s1, s2, s3, s4, s5, s6, s7, s8, s9⟩
                                          go_simp
                                          with_reducible rfl
                                        rotate_left
                                        · simp only [Act.put, List.setIfInBounds_toArray, List.set_cons_zero, List.set_cons_succ, i64_w, i32_w]
                                          rfl
                                        refine one_ (i := 5) (N := some 138) #[true, true, true, true, true, true, false] rfl rfl (by kernel_rfl) (by decide) (fun K hK => ?_)
                                        refine goes_ Try.func23 (by kernel_rfl) rfl #[.agg #[.int .i64 ((rd_T38 t235 x19_5).f0), .int .i64 ((rd_T38 t235 x19_5).f1), .int .u8 ((rd_T38 t235 x19_5).f2), .int .i64 ((rd_T38 t235 x19_5).f3), .int .i64 ((rd_T38 t235 x19_5).f4)], .agg #[.int .i64 1, .int .i64 ji37, .int .u8 (bt (strOfNums x8_2) (ji37)), .int .i64 1, .int .i64 (wrap64 (x19_5 + 1))]] (by rfl) rfl rfl (by (try simp only [List.map_toArray, List.map_cons, List.map_nil]); first | done | (simp only [hji37]; rfl) | rfl | (simp only [List.length_drop, List.length_take]; rfl)) ?_
                                        with_reducible refine (jotterlaw17_one.calls ((rd_T38 t235 x19_5).f0) ((rd_T38 t235 x19_5).f1) ((rd_T38 t235 x19_5).f2) ((rd_T38 t235 x19_5).f3) ((rd_T38 t235 x19_5).f4) 1 ji37 (bt (strOfNums x8_2) (ji37)) 1 (wrap64 (x19_5 + 1)) true _ A42.out).mono ?_
                                        rintro e w49 ⟨rfl, hb⟩
                                        have HS5_ := (hb.cell (World.block_lt_of_cell? _ _ (hHeld.2.2.2.2.2.1))).trans (hHeld.2.2.2.2.2.1)
                                        have HS6_ := (hb.cell (World.block_lt_of_cell? _ _ (hHeld.2.2.2.2.2.2.1))).trans (hHeld.2.2.2.2.2.2.1)
                                        have HS7_ := (hb.cell (World.block_lt_of_cell? _ _ (hHeld.2.2.2.2.2.2.2.1))).trans (hHeld.2.2.2.2.2.2.2.1)
                                        have HS8_ := (hb.cell (World.block_lt_of_cell? _ _ (hHeld.2.2.2.2.2.2.2.2.1))).trans (hHeld.2.2.2.2.2.2.2.2.1)
                                        have HS9_ := (hb.cell (World.block_lt_of_cell? _ _ (hHeld.2.2.2.2.2.2.2.2.2))).trans (hHeld.2.2.2.2.2.2.2.2.2)
                                        refine ⟨_, rfl, ?_⟩
                                        have n0_ := Aside0.mk (Kd.R_below (by (with_reducible repeat (first | apply Kd.R_alloc | apply Kd.R_drewN | apply Kd.R_drew)); exact HO_7.out) hb)
                                        have n1_ := Aside0.mk (Kd.R_below (by (with_reducible repeat (first | apply Kd.R_alloc | apply Kd.R_drewN | apply Kd.R_drew)); exact HO_17.out) hb)
                                        have n2_ := Aside0.mk (blk_below (g := gb239) (o := .cells #[.int .i64 1, .int .i64 ji37, .int .u8 (bt (strOfNums x8_2) (ji37)), .int .i64 1, .int .i64 (wrap64 (x19_5 + 1))] 38 (0, 0)) (by (with_reducible repeat (first | refine blk_drewN ?_ _ | refine blk_drew ?_ | refine blk_alloc ?_ _)); exact BK239.out) hb)
                                        have n3_ := Aside0.mk (below_step (by repeat (first | (with_reducible first | exact HB.out | apply below_alloc | apply pw_below_drewN | apply below_drew1 | refine below_set ?_ GE239.out) | exact HB.out)) hb)
                                        clear HO_7
                                        clear HO_17
                                        clear BK239
                                        clear HB
                                        have HO_7 := n0_
                                        have HO_17 := n1_
                                        have BK239 := n2_
                                        have HB := n3_
                                        clear n0_ n1_ n2_ n3_
                                        (try clear hb)
                                        (try clear hb2)
                                        (try clear hk)
                                        (try clear hi)
                                        refine hK.out _ _ ⟨(blk_cell BK239.out 0).trans rfl, (blk_cell BK239.out 1).trans rfl, (blk_cell BK239.out 2).trans rfl, (blk_cell BK239.out 3).trans rfl, (blk_cell BK239.out 4).trans rfl, HS5_, HS6_, HS7_, HS8_, HS9_⟩ (fun hHeld => ?_)
                                        clear hK K
                                        refine norm_ (a' := ?_) ?_ ?_
                                        rotate_left
                                        · show Act.put _ (some 138) _ = _
                                          simp only [Act.put, List.setIfInBounds_toArray, List.set_cons_zero, List.set_cons_succ, i64_w, i32_w]
                                          rfl
                                        refine pure_ (i := 6) (N := some 139) (v := ?_) (a' := ?_) #[true, true, true, true, true, true, true] rfl rfl (by kernel_rfl) (fun _ _ _ h => h) (Or.inl ⟨by rfl, ?_⟩) ?_ ?_
                                        rotate_left
                                        · intro w'
                                          go_simp
                                          with_reducible rfl
                                        rotate_left
                                        · simp only [Act.put, List.setIfInBounds_toArray, List.set_cons_zero, List.set_cons_succ, i64_w, i32_w]
                                          rfl
                                        refine done_ (by kernel_rfl) ?_
                                        try go_wp2
                                        go_roundg k5
                                        case measure => have := HK1.out; have := HK2.out; have := HJ14.out; have := HJ24.out; have := HK5.out; omega
                                        case rel => exact ⟨(wrap64 (x19_5 + 1)), (by first | rfl | (simp; done) | (simp [*]; done)), H', ⟨by have := HK1.out; have := HK2.out; have := HJ14.out; have := HJ24.out; have := HK5.out; omega⟩, ⟨by (with_reducible repeat (first | apply Kd.R_alloc | apply Kd.R_drewN | apply Kd.R_drew)); exact HO_7.out⟩, ⟨by (with_reducible repeat (first | apply Kd.R_alloc | apply Kd.R_drewN | apply Kd.R_drew)); exact Kd.R_mono HO_17.out (fun _ hk => trivial)⟩, ⟨by repeat (first | (with_reducible first | exact HB.out | apply below_alloc | apply pw_below_drewN | apply below_drew1 | refine below_set ?_ GE239.out) | exact HB.out)⟩⟩
                                      · replace c43 := Bool.eq_false_iff.mpr c43
                                        subst c43
                                        have H1 : (some false) = some r := by rw [if_neg (show ¬ (false = true) by decide)] at H; exact H
                                        clear H
                                        have H := H1
                                        clear H1
                                        obtain rfl := Option.some.inj H
                                        obtain ⟨Ao50, co50, eo50⟩ := Kd.R_slice HO_17.out
                                        subst eo50
                                        go_upto_if 121 with (first | ((with_reducible refine gate_dst (N := 20) rfl ?_); (try (refine gate_guard (by rfl) ?_; dsimp only)); refine box_event ?hg (N := 20) ?hd (cs := #[.int .i64 0, .int .i64 0, .int .u8 0, .int .i64 0, .int .i64 0]) (t := 38) ?hr ?_; (case hd => rfl); (case hg => rfl); (case hr => first | (go_simp; done) | (go_simp; rfl)); intro gb239 hg w51 hbox hb; have n0_ := Aside0.mk (Kd.R_below (by (with_reducible repeat (first | apply Kd.R_alloc | apply Kd.R_drewN | apply Kd.R_drew)); exact HO_7.out) hb); have n1_ := Aside0.mk (Kd.R_below (Kd.R_elderB (by (with_reducible repeat (first | apply Kd.R_alloc | apply Kd.R_drewN | apply Kd.R_drew)); exact HO_17.out) gb239 (Nat.le_of_eq hg.symm)) hb); have n2_ := Aside0.mk (below_step (by repeat (first | (with_reducible first | exact HB.out | apply below_alloc | apply pw_below_drewN | apply below_drew1) | exact HB.out)) hb); have n3_ := Aside0.mk (hbox); have n4_ := Aside0.mk ((by rw [hg]; exact (below_size (by repeat (first | (with_reducible first | exact HB.out | apply below_alloc | apply pw_below_drewN | apply below_drew1) | exact HB.out))) : w.heap.size ≤ gb239)); have n5_ := Aside0.mk ((by rw [hg]; exact (below_size (by repeat (first | (with_reducible first | exact HB.out | apply below_alloc | apply pw_below_drewN | apply below_drew1) | exact HB.out))) : w.heap.size ≤ gb239)); clear HO_7; clear HO_17; clear HB; have HO_7 := n0_; have HO_17 := n1_; have HB := n2_; have BK239 := n3_; have GW239 := n4_; have GE239 := n5_; clear n0_ n1_ n2_ n3_ n4_ n5_; clear hb hbox hg; have hcz52_0 : w51.cell? ⟨gb239, 0, none⟩ = some (.int .i64 0) := (blk_cell BK239.out 0).trans rfl; have hcz52_1 : w51.cell? ⟨gb239, 1, none⟩ = some (.int .i64 0) := (blk_cell BK239.out 1).trans rfl; have hcz52_2 : w51.cell? ⟨gb239, 2, none⟩ = some (.int .u8 0) := (blk_cell BK239.out 2).trans rfl; have hcz52_3 : w51.cell? ⟨gb239, 3, none⟩ = some (.int .i64 0) := (blk_cell BK239.out 3).trans rfl; have hcz52_4 : w51.cell? ⟨gb239, 4, none⟩ = some (.int .i64 0) := (blk_cell BK239.out 4).trans rfl; have hfz52_0 := blk_frozen BK239.out 0; have hfz52_1 := blk_frozen BK239.out 1; have hfz52_2 := blk_frozen BK239.out 2; have hfz52_3 := blk_frozen BK239.out 3; have hfz52_4 := blk_frozen BK239.out 4))
                                        obtain ⟨wn2, hwn⟩ : ∃ wn, wn = ((((w51.setCell ⟨gb239, 0, none⟩ (.int .i64 2)).setCell ⟨gb239, 1, none⟩ (.int .i64 0)).setCell ⟨gb239, 2, none⟩ (.int .u8 0)).setCell ⟨gb239, 3, none⟩ (.int .i64 1)).setCell ⟨gb239, 4, none⟩ (.int .i64 (wrap64 (x19_5 + 1))) := ⟨_, rfl⟩
                                        rw [← hwn]
                                        have n0_ := Aside0.mk (show Kd.R (Kd.int .u8) 5 wn2 w.heap.size (fun _ => True) u7 x7_1 by rw [hwn]; exact Kd.R_mono ((Kd.R_far (p := ⟨gb239, 4, none⟩) (Kd.R_far (p := ⟨gb239, 3, none⟩) (Kd.R_far (p := ⟨gb239, 2, none⟩) (Kd.R_far (p := ⟨gb239, 1, none⟩) (Kd.R_far (p := ⟨gb239, 0, none⟩) (Kd.R_types HO_7.out BK239.out (by decide)) (fun _ hk => hk.2) (.int .i64 2)) (fun _ hk => hk.2) (.int .i64 0)) (fun _ hk => hk.2) (.int .u8 0)) (fun _ hk => hk.2) (.int .i64 1)) (fun _ hk => hk.2) (.int .i64 (wrap64 (x19_5 + 1))))) (fun _ _ => trivial))
                                        have n1_ := Aside0.mk (show Kd.R k38 38 wn2 w.heap.size (fun k_ => True ∧ k_ ≠ gb239) (.slice Ao50 t235.length co50) t235 by rw [hwn]; exact Kd.R_mono ((Kd.R_far (p := ⟨gb239, 4, none⟩) (Kd.R_far (p := ⟨gb239, 3, none⟩) (Kd.R_far (p := ⟨gb239, 2, none⟩) (Kd.R_far (p := ⟨gb239, 1, none⟩) (Kd.R_far (p := ⟨gb239, 0, none⟩) (Kd.R_mono HO_17.out (fun k_ hk => (⟨hk, hk.2⟩ : _ ∧ k_ ≠ gb239))) (fun _ hk => hk.2) (.int .i64 2)) (fun _ hk => hk.2) (.int .i64 0)) (fun _ hk => hk.2) (.int .u8 0)) (fun _ hk => hk.2) (.int .i64 1)) (fun _ hk => hk.2) (.int .i64 (wrap64 (x19_5 + 1))))) (fun _ hk => ⟨trivial, hk.2⟩))
                                        have n2_ := Aside0.mk (show Below w.heap.size w wn2 by rw [hwn]; repeat (first | exact HB.out | refine below_set ?_ GE239.out))
                                        have n3_ := Aside0.mk (show wn2.heap[gb239]? = some (.cells #[.int .i64 2, .int .i64 0, .int .u8 0, .int .i64 1, .int .i64 (wrap64 (x19_5 + 1))] 38 (0, 0)) by rw [hwn]; refine blk_put (cs := #[.int .i64 2, .int .i64 0, .int .u8 0, .int .i64 1, .int .i64 0]) ?_ 4 _ rfl; refine blk_put (cs := #[.int .i64 2, .int .i64 0, .int .u8 0, .int .i64 0, .int .i64 0]) ?_ 3 _ rfl; refine blk_put (cs := #[.int .i64 2, .int .i64 0, .int .u8 0, .int .i64 0, .int .i64 0]) ?_ 2 _ rfl; refine blk_put (cs := #[.int .i64 2, .int .i64 0, .int .u8 0, .int .i64 0, .int .i64 0]) ?_ 1 _ rfl; refine blk_put (cs := #[.int .i64 0, .int .i64 0, .int .u8 0, .int .i64 0, .int .i64 0]) ?_ 0 _ rfl; exact BK239.out)
                                        clear HO_7 HO_17 HB BK239 hwn hcz52_0 hfz52_0 hcz52_1 hfz52_1 hcz52_2 hfz52_2 hcz52_3 hfz52_3 hcz52_4 hfz52_4
                                        have HO_7 := n0_
                                        have HO_17 := n1_
                                        have HB := n2_
                                        have BK239 := n3_
                                        clear n0_ n1_ n2_ n3_
                                        have hcz52_0 : wn2.cell? ⟨gb239, 0, none⟩ = some (.int .i64 2) := (blk_cell BK239.out 0).trans rfl
                                        have hfz52_0 := blk_frozen BK239.out 0
                                        have hcz52_1 : wn2.cell? ⟨gb239, 1, none⟩ = some (.int .i64 0) := (blk_cell BK239.out 1).trans rfl
                                        have hfz52_1 := blk_frozen BK239.out 1
                                        have hcz52_2 : wn2.cell? ⟨gb239, 2, none⟩ = some (.int .u8 0) := (blk_cell BK239.out 2).trans rfl
                                        have hfz52_2 := blk_frozen BK239.out 2
                                        have hcz52_3 : wn2.cell? ⟨gb239, 3, none⟩ = some (.int .i64 1) := (blk_cell BK239.out 3).trans rfl
                                        have hfz52_3 := blk_frozen BK239.out 3
                                        have hcz52_4 : wn2.cell? ⟨gb239, 4, none⟩ = some (.int .i64 (wrap64 (x19_5 + 1))) := (blk_cell BK239.out 4).trans rfl
                                        have hfz52_4 := blk_frozen BK239.out 4
                                        have p40 : 0 ≤ ((ji37) : Int) := of_decide_eq_true (by first | (with_reducible assumption) | assumption)
                                        have q40 : (ji37) < ((strOfNums x8_2).size : Int) := of_decide_eq_true (by first | (with_reducible assumption) | assumption)
                                        have hx40 := bt_at (strOfNums x8_2) (ji37)
                                        replace p40 := eq_true p40
                                        replace q40 := eq_true q40
                                        try go_wp2
                                        have n0_ : Aside0 (Kd.R (Kd.int .u8) 5 (((((wn2.setCell ⟨gb239, 0, none⟩ (.int .i64 1)).setCell ⟨gb239, 1, none⟩ (.int .i64 ji37)).setCell ⟨gb239, 2, none⟩ (.int .u8 (bt (strOfNums x8_2) (ji37)))).setCell ⟨gb239, 3, none⟩ (.int .i64 1)).setCell ⟨gb239, 4, none⟩ (.int .i64 (wrap64 (x19_5 + 1)))) w.heap.size (fun _ => True) u7 x7_1) := ⟨by (with_reducible repeat (first | apply Kd.R_alloc | apply Kd.R_drewN | apply Kd.R_drew)); exact Kd.R_mono (Kd.R_far (p := ⟨gb239, 4, none⟩) (Kd.R_far (p := ⟨gb239, 3, none⟩) (Kd.R_far (p := ⟨gb239, 2, none⟩) (Kd.R_far (p := ⟨gb239, 1, none⟩) (Kd.R_far (p := ⟨gb239, 0, none⟩) (Kd.R_types HO_7.out BK239.out (by decide)) (fun _ hk => hk.2) (.int .i64 1)) (fun _ hk => hk.2) (.int .i64 ji37)) (fun _ hk => hk.2) (.int .u8 (bt (strOfNums x8_2) (ji37)))) (fun _ hk => hk.2) (.int .i64 1)) (fun _ hk => hk.2) (.int .i64 (wrap64 (x19_5 + 1)))) (fun _ hk => trivial)⟩
                                        have n1_ : Aside0 (Kd.R k38 38 (((((wn2.setCell ⟨gb239, 0, none⟩ (.int .i64 1)).setCell ⟨gb239, 1, none⟩ (.int .i64 ji37)).setCell ⟨gb239, 2, none⟩ (.int .u8 (bt (strOfNums x8_2) (ji37)))).setCell ⟨gb239, 3, none⟩ (.int .i64 1)).setCell ⟨gb239, 4, none⟩ (.int .i64 (wrap64 (x19_5 + 1)))) w.heap.size (fun k_ => k_ ≠ gb239) (.slice Ao50 t235.length co50) t235) := ⟨by (with_reducible repeat (first | apply Kd.R_alloc | apply Kd.R_drewN | apply Kd.R_drew)); exact Kd.R_mono (Kd.R_far (p := ⟨gb239, 4, none⟩) (Kd.R_far (p := ⟨gb239, 3, none⟩) (Kd.R_far (p := ⟨gb239, 2, none⟩) (Kd.R_far (p := ⟨gb239, 1, none⟩) (Kd.R_far (p := ⟨gb239, 0, none⟩) (Kd.R_mono HO_17.out (fun k_ hk => (⟨hk, hk.2⟩ : _ ∧ k_ ≠ gb239))) (fun _ hk => hk.2) (.int .i64 1)) (fun _ hk => hk.2) (.int .i64 ji37)) (fun _ hk => hk.2) (.int .u8 (bt (strOfNums x8_2) (ji37)))) (fun _ hk => hk.2) (.int .i64 1)) (fun _ hk => hk.2) (.int .i64 (wrap64 (x19_5 + 1)))) (fun _ hk => hk.1.2)⟩
                                        have n2_ : Aside0 ((((((wn2.setCell ⟨gb239, 0, none⟩ (.int .i64 1)).setCell ⟨gb239, 1, none⟩ (.int .i64 ji37)).setCell ⟨gb239, 2, none⟩ (.int .u8 (bt (strOfNums x8_2) (ji37)))).setCell ⟨gb239, 3, none⟩ (.int .i64 1)).setCell ⟨gb239, 4, none⟩ (.int .i64 (wrap64 (x19_5 + 1)))).heap[gb239]? = some (.cells #[.int .i64 1, .int .i64 ji37, .int .u8 (bt (strOfNums x8_2) (ji37)), .int .i64 1, .int .i64 (wrap64 (x19_5 + 1))] 38 (0, 0))) := ⟨by (with_reducible repeat (first | refine blk_drewN ?_ _ | refine blk_drew ?_ | refine blk_alloc ?_ _)); refine blk_put (cs := #[.int .i64 1, .int .i64 ji37, .int .u8 (bt (strOfNums x8_2) (ji37)), .int .i64 1, .int .i64 (wrap64 (x19_5 + 1))]) ?_ 4 _ rfl; (with_reducible repeat (first | refine blk_drewN ?_ _ | refine blk_drew ?_ | refine blk_alloc ?_ _)); refine blk_put (cs := #[.int .i64 1, .int .i64 ji37, .int .u8 (bt (strOfNums x8_2) (ji37)), .int .i64 1, .int .i64 (wrap64 (x19_5 + 1))]) ?_ 3 _ rfl; (with_reducible repeat (first | refine blk_drewN ?_ _ | refine blk_drew ?_ | refine blk_alloc ?_ _)); refine blk_put (cs := #[.int .i64 1, .int .i64 ji37, .int .u8 0, .int .i64 1, .int .i64 (wrap64 (x19_5 + 1))]) ?_ 2 _ rfl; (with_reducible repeat (first | refine blk_drewN ?_ _ | refine blk_drew ?_ | refine blk_alloc ?_ _)); refine blk_put (cs := #[.int .i64 1, .int .i64 0, .int .u8 0, .int .i64 1, .int .i64 (wrap64 (x19_5 + 1))]) ?_ 1 _ rfl; (with_reducible repeat (first | refine blk_drewN ?_ _ | refine blk_drew ?_ | refine blk_alloc ?_ _)); refine blk_put (cs := #[.int .i64 2, .int .i64 0, .int .u8 0, .int .i64 1, .int .i64 (wrap64 (x19_5 + 1))]) ?_ 0 _ rfl; (with_reducible repeat (first | refine blk_drewN ?_ _ | refine blk_drew ?_ | refine blk_alloc ?_ _)); exact BK239.out⟩
                                        have n3_ : Aside0 (Below w.heap.size w (((((wn2.setCell ⟨gb239, 0, none⟩ (.int .i64 1)).setCell ⟨gb239, 1, none⟩ (.int .i64 ji37)).setCell ⟨gb239, 2, none⟩ (.int .u8 (bt (strOfNums x8_2) (ji37)))).setCell ⟨gb239, 3, none⟩ (.int .i64 1)).setCell ⟨gb239, 4, none⟩ (.int .i64 (wrap64 (x19_5 + 1))))) := ⟨by repeat (first | (with_reducible first | exact HB.out | apply below_alloc | apply pw_below_drewN | apply below_drew1 | refine below_set ?_ GE239.out) | exact HB.out)⟩
                                        (try clear HO_7)
                                        (try clear HO_17)
                                        (try clear BK239)
                                        (try clear HB)
                                        generalize (((((wn2.setCell ⟨gb239, 0, none⟩ (.int .i64 1)).setCell ⟨gb239, 1, none⟩ (.int .i64 ji37)).setCell ⟨gb239, 2, none⟩ (.int .u8 (bt (strOfNums x8_2) (ji37)))).setCell ⟨gb239, 3, none⟩ (.int .i64 1)).setCell ⟨gb239, 4, none⟩ (.int .i64 (wrap64 (x19_5 + 1)))) = w53 at n0_ n1_ n2_ n3_ ⊢
                                        have HO_7 := n0_
                                        have HO_17 := n1_
                                        have BK239 := n2_
                                        have HB := n3_
                                        clear n0_ n1_ n2_ n3_
                                        have n0_ := Aside0.mk (Kd.R_drew HO_7.out)
                                        have n1_ := Aside0.mk (Kd.R_drew HO_17.out)
                                        have n2_ := Aside0.mk (blk_drew BK239.out)
                                        have n3_ := Aside0.mk (below_drew1 HB.out)
                                        clear HO_7
                                        clear HO_17
                                        clear BK239
                                        clear HB
                                        have HO_7 := n0_
                                        have HO_17 := n1_
                                        have BK239 := n2_
                                        have HB := n3_
                                        clear n0_ n1_ n2_ n3_
                                        have p240 : 0 ≤ (x19_5 : Int) := of_decide_eq_true (by first | (with_reducible assumption) | assumption)
                                        have q240 : x19_5 < (t235.length : Int) := of_decide_eq_true (by first | (with_reducible assumption) | assumption)
                                        obtain ⟨ad240, e240, hx240_0, hx240_1, hx240_2, hx240_3, hx240_4⟩ := at_T38 (Kd.R_reads' HO_17.out).2.2 x19_5 p240 q240
                                        cases e240
                                        replace p240 := eq_true p240
                                        replace q240 := eq_true q240
                                        refine start_ (n := 7) (S := fun w' => w'.cell? ⟨gb239, 0, none⟩ = some (.int .i64 1) ∧ w'.cell? ⟨gb239, 1, none⟩ = some (.int .i64 ji37) ∧ w'.cell? ⟨gb239, 2, none⟩ = some (.int .u8 (bt (strOfNums x8_2) (ji37))) ∧ w'.cell? ⟨gb239, 3, none⟩ = some (.int .i64 1) ∧ w'.cell? ⟨gb239, 4, none⟩ = some (.int .i64 (wrap64 (x19_5 + 1))) ∧ w'.cell? (ad240.add ((x19_5).toNat * 5)) = some (.int .i64 ((rd_T38 t235 x19_5).f0)) ∧ w'.cell? ⟨(ad240.add ((x19_5).toNat * 5)).block, (ad240.add ((x19_5).toNat * 5)).off + 1, none⟩ = some (.int .i64 ((rd_T38 t235 x19_5).f1)) ∧ w'.cell? ⟨(ad240.add ((x19_5).toNat * 5)).block, (ad240.add ((x19_5).toNat * 5)).off + 2, none⟩ = some (.int .u8 ((rd_T38 t235 x19_5).f2)) ∧ w'.cell? ⟨(ad240.add ((x19_5).toNat * 5)).block, (ad240.add ((x19_5).toNat * 5)).off + 3, none⟩ = some (.int .i64 ((rd_T38 t235 x19_5).f3)) ∧ w'.cell? ⟨(ad240.add ((x19_5).toNat * 5)).block, (ad240.add ((x19_5).toNat * 5)).off + 4, none⟩ = some (.int .i64 ((rd_T38 t235 x19_5).f4))) (ds := []) #[false, false, false, false, false, false, false] (by kernel_rfl) rfl rfl ⟨(blk_cell BK239.out 0).trans rfl, (blk_cell BK239.out 1).trans rfl, (blk_cell BK239.out 2).trans rfl, (blk_cell BK239.out 3).trans rfl, (blk_cell BK239.out 4).trans rfl, hx240_0, hx240_1, hx240_2, hx240_3, hx240_4⟩ (fun hHeld => ?_)
                                        generalize w53.drew = w54 at HO_7 HO_17 BK239 HB hx240_0 hx240_1 hx240_2 hx240_3 hx240_4 hHeld ⊢
                                        refine pure_ (i := 0) (N := some 133) (v := ?_) (a' := ?_) #[true, false, false, false, false, false, false] rfl rfl (by kernel_rfl) (fun _ _ _ h => h) (Or.inl ⟨by rfl, ?_⟩) ?_ ?_
                                        rotate_left
                                        · intro w'
                                          go_simp
                                          with_reducible rfl
                                        rotate_left
                                        · simp only [Act.put, List.setIfInBounds_toArray, List.set_cons_zero, List.set_cons_succ, i64_w, i32_w]
                                          rfl
                                        refine pure_ (i := 1) (N := some 134) (v := ?_) (a' := ?_) #[true, true, false, false, false, false, false] rfl rfl (by kernel_rfl) (fun _ _ _ h => h) (Or.inl ⟨by rfl, ?_⟩) ?_ ?_
                                        rotate_left
                                        · intro w'
                                          go_simp
                                          with_reducible rfl
                                        rotate_left
                                        · simp only [Act.put, List.setIfInBounds_toArray, List.set_cons_zero, List.set_cons_succ, i64_w, i32_w]
                                          rfl
                                        refine pure_ (i := 2) (N := some 135) (v := ?_) (a' := ?_) #[true, true, true, false, false, false, false] rfl rfl (by kernel_rfl) (fun _ _ _ h => h) (Or.inl ⟨by rfl, ?_⟩) ?_ ?_
                                        rotate_left
                                        · intro w'
                                          go_simp
                                          with_reducible rfl
                                        rotate_left
                                        · simp only [Act.put, List.setIfInBounds_toArray, List.set_cons_zero, List.set_cons_succ, i64_w, i32_w]
                                          rfl
                                        refine take_ (i := 3) (N := some 136) (v := ?_) (a' := ?_) #[true, true, true, true, false, false, false] rfl rfl (by kernel_rfl) (fun _ _ _ h => h) (Or.inl ⟨by rfl, ?_⟩) hHeld ?_ ?_
                                        rotate_left
                                        · rintro w' ⟨s0, s1, s2, s3, s4, s5, s6, s7, s8, s9⟩
                                          go_simp
                                          with_reducible rfl
                                        rotate_left
                                        · simp only [Act.put, List.setIfInBounds_toArray, List.set_cons_zero, List.set_cons_succ, i64_w, i32_w]
                                          rfl
                                        refine take_ (i := 4) (N := some 137) (v := ?_) (a' := ?_) #[true, true, true, true, true, false, false] rfl rfl (by kernel_rfl) (fun _ _ _ h => h) (Or.inl ⟨by rfl, ?_⟩) hHeld ?_ ?_
                                        rotate_left
                                        · rintro w' ⟨s0, s1, s2, s3, s4, s5, s6, s7, s8, s9⟩
                                          go_simp
                                          with_reducible rfl
                                        rotate_left
                                        · simp only [Act.put, List.setIfInBounds_toArray, List.set_cons_zero, List.set_cons_succ, i64_w, i32_w]
                                          rfl
                                        refine one_ (i := 5) (N := some 138) #[true, true, true, true, true, true, false] rfl rfl (by kernel_rfl) (by decide) (fun K hK => ?_)
                                        refine goes_ Try.func23 (by kernel_rfl) rfl #[.agg #[.int .i64 ((rd_T38 t235 x19_5).f0), .int .i64 ((rd_T38 t235 x19_5).f1), .int .u8 ((rd_T38 t235 x19_5).f2), .int .i64 ((rd_T38 t235 x19_5).f3), .int .i64 ((rd_T38 t235 x19_5).f4)], .agg #[.int .i64 1, .int .i64 ji37, .int .u8 (bt (strOfNums x8_2) (ji37)), .int .i64 1, .int .i64 (wrap64 (x19_5 + 1))]] (by rfl) rfl rfl (by (try simp only [List.map_toArray, List.map_cons, List.map_nil]); first | done | (simp only [hji37]; rfl) | rfl | (simp only [List.length_drop, List.length_take]; rfl)) ?_
                                        with_reducible refine (jotterlaw17_one.calls ((rd_T38 t235 x19_5).f0) ((rd_T38 t235 x19_5).f1) ((rd_T38 t235 x19_5).f2) ((rd_T38 t235 x19_5).f3) ((rd_T38 t235 x19_5).f4) 1 ji37 (bt (strOfNums x8_2) (ji37)) 1 (wrap64 (x19_5 + 1)) false _ A42.out).mono ?_
                                        rintro e w55 ⟨rfl, hb⟩
                                        have HS5_ := (hb.cell (World.block_lt_of_cell? _ _ (hHeld.2.2.2.2.2.1))).trans (hHeld.2.2.2.2.2.1)
                                        have HS6_ := (hb.cell (World.block_lt_of_cell? _ _ (hHeld.2.2.2.2.2.2.1))).trans (hHeld.2.2.2.2.2.2.1)
                                        have HS7_ := (hb.cell (World.block_lt_of_cell? _ _ (hHeld.2.2.2.2.2.2.2.1))).trans (hHeld.2.2.2.2.2.2.2.1)
                                        have HS8_ := (hb.cell (World.block_lt_of_cell? _ _ (hHeld.2.2.2.2.2.2.2.2.1))).trans (hHeld.2.2.2.2.2.2.2.2.1)
                                        have HS9_ := (hb.cell (World.block_lt_of_cell? _ _ (hHeld.2.2.2.2.2.2.2.2.2))).trans (hHeld.2.2.2.2.2.2.2.2.2)
                                        refine ⟨_, rfl, ?_⟩
                                        have n0_ := Aside0.mk (Kd.R_below (by (with_reducible repeat (first | apply Kd.R_alloc | apply Kd.R_drewN | apply Kd.R_drew)); exact HO_7.out) hb)
                                        have n1_ := Aside0.mk (Kd.R_below (by (with_reducible repeat (first | apply Kd.R_alloc | apply Kd.R_drewN | apply Kd.R_drew)); exact HO_17.out) hb)
                                        have n2_ := Aside0.mk (blk_below (g := gb239) (o := .cells #[.int .i64 1, .int .i64 ji37, .int .u8 (bt (strOfNums x8_2) (ji37)), .int .i64 1, .int .i64 (wrap64 (x19_5 + 1))] 38 (0, 0)) (by (with_reducible repeat (first | refine blk_drewN ?_ _ | refine blk_drew ?_ | refine blk_alloc ?_ _)); exact BK239.out) hb)
                                        have n3_ := Aside0.mk (below_step (by repeat (first | (with_reducible first | exact HB.out | apply below_alloc | apply pw_below_drewN | apply below_drew1 | refine below_set ?_ GE239.out) | exact HB.out)) hb)
                                        clear HO_7
                                        clear HO_17
                                        clear BK239
                                        clear HB
                                        have HO_7 := n0_
                                        have HO_17 := n1_
                                        have BK239 := n2_
                                        have HB := n3_
                                        clear n0_ n1_ n2_ n3_
                                        (try clear hb)
                                        (try clear hb2)
                                        (try clear hk)
                                        (try clear hi)
                                        refine hK.out _ _ ⟨(blk_cell BK239.out 0).trans rfl, (blk_cell BK239.out 1).trans rfl, (blk_cell BK239.out 2).trans rfl, (blk_cell BK239.out 3).trans rfl, (blk_cell BK239.out 4).trans rfl, HS5_, HS6_, HS7_, HS8_, HS9_⟩ (fun hHeld => ?_)
                                        clear hK K
                                        refine norm_ (a' := ?_) ?_ ?_
                                        rotate_left
                                        · show Act.put _ (some 138) _ = _
                                          simp only [Act.put, List.setIfInBounds_toArray, List.set_cons_zero, List.set_cons_succ, i64_w, i32_w]
                                          rfl
                                        refine pure_ (i := 6) (N := some 139) (v := ?_) (a' := ?_) #[true, true, true, true, true, true, true] rfl rfl (by kernel_rfl) (fun _ _ _ h => h) (Or.inl ⟨by rfl, ?_⟩) ?_ ?_
                                        rotate_left
                                        · intro w'
                                          go_simp
                                          with_reducible rfl
                                        rotate_left
                                        · simp only [Act.put, List.setIfInBounds_toArray, List.set_cons_zero, List.set_cons_succ, i64_w, i32_w]
                                          rfl
                                        refine done_ (by kernel_rfl) ?_
                                        try go_wp2
                                        go_ret
                                        exact ⟨by first | rfl | (simp [errW_none, errW_some] <;> rfl) | (simp only [← hji37]; first | rfl | (simp [errW_none, errW_some] <;> rfl)) | (simp [*, errW_none, errW_some] <;> rfl), by repeat (first | (with_reducible first | exact HB.out | apply below_alloc | apply pw_below_drewN | apply below_drew1 | refine below_set ?_ GE239.out) | exact HB.out)⟩
                                    · rw [if_neg c41] at H
                                      exact absurd H (by simp)
                                  · rw [if_neg c39] at H
                                    exact absurd H (by simp)
                                · rw [if_neg c38] at H
                                  exact absurd H (by simp)
                              · rw [if_neg c36] at H
                                have c36b0 : decide (t223 ≤ x19_5) = false := decide_eq_false c36
                                clear c36
                                by_cases c56 : 0 ≤ x19_5
                                · rw [if_pos c56] at H
                                  have c56b0 : decide (0 ≤ x19_5) = true := decide_eq_true c56
                                  clear c56
                                  replace H := Option.bind_eq_some_iff.mp H
                                  obtain ⟨t243, A570, H⟩ := H
                                  replace H : (if t243 = true then (jotterlaw17_DiffApart.l2 k5 t223 a2 x7_1 (strOfNums x7_1) (strOfNums x8_2) t235 (wrap64 (x19_5 + 1))) else (some false)) = some r := H
                                  have A57 := Aside0.mk A570
                                  clear A570
                                  by_cases c58 : t243 = true
                                  · subst c58
                                    have H1 : (jotterlaw17_DiffApart.l2 k5 t223 a2 x7_1 (strOfNums x7_1) (strOfNums x8_2) t235 (wrap64 (x19_5 + 1))) = some r := by rw [if_pos rfl] at H; exact H
                                    clear H
                                    have H := H1
                                    clear H1
                                    have H' := Aside0.mk H
                                    clear H
                                    obtain ⟨Ao59, co59, eo59⟩ := Kd.R_slice HO_17.out
                                    subst eo59
                                    try go_wp2_with (first | ((with_reducible refine gate_dst (N := 20) rfl ?_); (try (refine gate_guard (by rfl) ?_; dsimp only)); refine box_event ?hg (N := 20) ?hd (cs := #[.int .i64 0, .int .i64 0, .int .u8 0, .int .i64 0, .int .i64 0]) (t := 38) ?hr ?_; (case hd => rfl); (case hg => rfl); (case hr => first | (go_simp; done) | (go_simp; rfl)); intro gb239 hg w60 hbox hb; have n0_ := Aside0.mk (Kd.R_below (by (with_reducible repeat (first | apply Kd.R_alloc | apply Kd.R_drewN | apply Kd.R_drew)); exact HO_7.out) hb); have n1_ := Aside0.mk (Kd.R_below (Kd.R_elderB (by (with_reducible repeat (first | apply Kd.R_alloc | apply Kd.R_drewN | apply Kd.R_drew)); exact HO_17.out) gb239 (Nat.le_of_eq hg.symm)) hb); have n2_ := Aside0.mk (below_step (by repeat (first | (with_reducible first | exact HB.out | apply below_alloc | apply pw_below_drewN | apply below_drew1) | exact HB.out)) hb); have n3_ := Aside0.mk (hbox); have n4_ := Aside0.mk ((by rw [hg]; exact (below_size (by repeat (first | (with_reducible first | exact HB.out | apply below_alloc | apply pw_below_drewN | apply below_drew1) | exact HB.out))) : w.heap.size ≤ gb239)); have n5_ := Aside0.mk ((by rw [hg]; exact (below_size (by repeat (first | (with_reducible first | exact HB.out | apply below_alloc | apply pw_below_drewN | apply below_drew1) | exact HB.out))) : w.heap.size ≤ gb239)); clear HO_7; clear HO_17; clear HB; have HO_7 := n0_; have HO_17 := n1_; have HB := n2_; have BK239 := n3_; have GW239 := n4_; have GE239 := n5_; clear n0_ n1_ n2_ n3_ n4_ n5_; clear hb hbox hg; have hcz61_0 : w60.cell? ⟨gb239, 0, none⟩ = some (.int .i64 0) := (blk_cell BK239.out 0).trans rfl; have hcz61_1 : w60.cell? ⟨gb239, 1, none⟩ = some (.int .i64 0) := (blk_cell BK239.out 1).trans rfl; have hcz61_2 : w60.cell? ⟨gb239, 2, none⟩ = some (.int .u8 0) := (blk_cell BK239.out 2).trans rfl; have hcz61_3 : w60.cell? ⟨gb239, 3, none⟩ = some (.int .i64 0) := (blk_cell BK239.out 3).trans rfl; have hcz61_4 : w60.cell? ⟨gb239, 4, none⟩ = some (.int .i64 0) := (blk_cell BK239.out 4).trans rfl; have hfz61_0 := blk_frozen BK239.out 0; have hfz61_1 := blk_frozen BK239.out 1; have hfz61_2 := blk_frozen BK239.out 2; have hfz61_3 := blk_frozen BK239.out 3; have hfz61_4 := blk_frozen BK239.out 4))
                                    have n0_ : Aside0 (Kd.R (Kd.int .u8) 5 (((((w60.setCell ⟨gb239, 0, none⟩ (.int .i64 2)).setCell ⟨gb239, 1, none⟩ (.int .i64 0)).setCell ⟨gb239, 2, none⟩ (.int .u8 0)).setCell ⟨gb239, 3, none⟩ (.int .i64 1)).setCell ⟨gb239, 4, none⟩ (.int .i64 (wrap64 (x19_5 + 1)))) w.heap.size (fun _ => True) u7 x7_1) := ⟨by (with_reducible repeat (first | apply Kd.R_alloc | apply Kd.R_drewN | apply Kd.R_drew)); exact Kd.R_mono (Kd.R_far (p := ⟨gb239, 4, none⟩) (Kd.R_far (p := ⟨gb239, 3, none⟩) (Kd.R_far (p := ⟨gb239, 2, none⟩) (Kd.R_far (p := ⟨gb239, 1, none⟩) (Kd.R_far (p := ⟨gb239, 0, none⟩) (Kd.R_types HO_7.out BK239.out (by decide)) (fun _ hk => hk.2) (.int .i64 2)) (fun _ hk => hk.2) (.int .i64 0)) (fun _ hk => hk.2) (.int .u8 0)) (fun _ hk => hk.2) (.int .i64 1)) (fun _ hk => hk.2) (.int .i64 (wrap64 (x19_5 + 1)))) (fun _ hk => trivial)⟩
                                    have n1_ : Aside0 (Kd.R k38 38 (((((w60.setCell ⟨gb239, 0, none⟩ (.int .i64 2)).setCell ⟨gb239, 1, none⟩ (.int .i64 0)).setCell ⟨gb239, 2, none⟩ (.int .u8 0)).setCell ⟨gb239, 3, none⟩ (.int .i64 1)).setCell ⟨gb239, 4, none⟩ (.int .i64 (wrap64 (x19_5 + 1)))) w.heap.size (fun k_ => k_ ≠ gb239) (.slice Ao59 t235.length co59) t235) := ⟨by (with_reducible repeat (first | apply Kd.R_alloc | apply Kd.R_drewN | apply Kd.R_drew)); exact Kd.R_mono (Kd.R_far (p := ⟨gb239, 4, none⟩) (Kd.R_far (p := ⟨gb239, 3, none⟩) (Kd.R_far (p := ⟨gb239, 2, none⟩) (Kd.R_far (p := ⟨gb239, 1, none⟩) (Kd.R_far (p := ⟨gb239, 0, none⟩) (Kd.R_mono HO_17.out (fun k_ hk => (⟨hk, hk.2⟩ : _ ∧ k_ ≠ gb239))) (fun _ hk => hk.2) (.int .i64 2)) (fun _ hk => hk.2) (.int .i64 0)) (fun _ hk => hk.2) (.int .u8 0)) (fun _ hk => hk.2) (.int .i64 1)) (fun _ hk => hk.2) (.int .i64 (wrap64 (x19_5 + 1)))) (fun _ hk => hk.1.2)⟩
                                    have n2_ : Aside0 ((((((w60.setCell ⟨gb239, 0, none⟩ (.int .i64 2)).setCell ⟨gb239, 1, none⟩ (.int .i64 0)).setCell ⟨gb239, 2, none⟩ (.int .u8 0)).setCell ⟨gb239, 3, none⟩ (.int .i64 1)).setCell ⟨gb239, 4, none⟩ (.int .i64 (wrap64 (x19_5 + 1)))).heap[gb239]? = some (.cells #[.int .i64 2, .int .i64 0, .int .u8 0, .int .i64 1, .int .i64 (wrap64 (x19_5 + 1))] 38 (0, 0))) := ⟨by (with_reducible repeat (first | refine blk_drewN ?_ _ | refine blk_drew ?_ | refine blk_alloc ?_ _)); refine blk_put (cs := #[.int .i64 2, .int .i64 0, .int .u8 0, .int .i64 1, .int .i64 0]) ?_ 4 _ rfl; (with_reducible repeat (first | refine blk_drewN ?_ _ | refine blk_drew ?_ | refine blk_alloc ?_ _)); refine blk_put (cs := #[.int .i64 2, .int .i64 0, .int .u8 0, .int .i64 0, .int .i64 0]) ?_ 3 _ rfl; (with_reducible repeat (first | refine blk_drewN ?_ _ | refine blk_drew ?_ | refine blk_alloc ?_ _)); refine blk_put (cs := #[.int .i64 2, .int .i64 0, .int .u8 0, .int .i64 0, .int .i64 0]) ?_ 2 _ rfl; (with_reducible repeat (first | refine blk_drewN ?_ _ | refine blk_drew ?_ | refine blk_alloc ?_ _)); refine blk_put (cs := #[.int .i64 2, .int .i64 0, .int .u8 0, .int .i64 0, .int .i64 0]) ?_ 1 _ rfl; (with_reducible repeat (first | refine blk_drewN ?_ _ | refine blk_drew ?_ | refine blk_alloc ?_ _)); refine blk_put (cs := #[.int .i64 0, .int .i64 0, .int .u8 0, .int .i64 0, .int .i64 0]) ?_ 0 _ rfl; (with_reducible repeat (first | refine blk_drewN ?_ _ | refine blk_drew ?_ | refine blk_alloc ?_ _)); exact BK239.out⟩
                                    have n3_ : Aside0 (Below w.heap.size w (((((w60.setCell ⟨gb239, 0, none⟩ (.int .i64 2)).setCell ⟨gb239, 1, none⟩ (.int .i64 0)).setCell ⟨gb239, 2, none⟩ (.int .u8 0)).setCell ⟨gb239, 3, none⟩ (.int .i64 1)).setCell ⟨gb239, 4, none⟩ (.int .i64 (wrap64 (x19_5 + 1))))) := ⟨by repeat (first | (with_reducible first | exact HB.out | apply below_alloc | apply pw_below_drewN | apply below_drew1 | refine below_set ?_ GE239.out) | exact HB.out)⟩
                                    (try clear HO_7)
                                    (try clear HO_17)
                                    (try clear BK239)
                                    (try clear HB)
                                    generalize (((((w60.setCell ⟨gb239, 0, none⟩ (.int .i64 2)).setCell ⟨gb239, 1, none⟩ (.int .i64 0)).setCell ⟨gb239, 2, none⟩ (.int .u8 0)).setCell ⟨gb239, 3, none⟩ (.int .i64 1)).setCell ⟨gb239, 4, none⟩ (.int .i64 (wrap64 (x19_5 + 1)))) = w62 at n0_ n1_ n2_ n3_ ⊢
                                    have HO_7 := n0_
                                    have HO_17 := n1_
                                    have BK239 := n2_
                                    have HB := n3_
                                    clear n0_ n1_ n2_ n3_
                                    have n0_ := Aside0.mk (Kd.R_drew HO_7.out)
                                    have n1_ := Aside0.mk (Kd.R_drew HO_17.out)
                                    have n2_ := Aside0.mk (blk_drew BK239.out)
                                    have n3_ := Aside0.mk (below_drew1 HB.out)
                                    clear HO_7
                                    clear HO_17
                                    clear BK239
                                    clear HB
                                    have HO_7 := n0_
                                    have HO_17 := n1_
                                    have BK239 := n2_
                                    have HB := n3_
                                    clear n0_ n1_ n2_ n3_
                                    have p242 : 0 ≤ (x19_5 : Int) := of_decide_eq_true (by first | (with_reducible assumption) | assumption)
                                    have q242 : x19_5 < (t235.length : Int) := of_decide_eq_true (by first | (with_reducible assumption) | assumption)
                                    obtain ⟨ad242, e242, hx242_0, hx242_1, hx242_2, hx242_3, hx242_4⟩ := at_T38 (Kd.R_reads' HO_17.out).2.2 x19_5 p242 q242
                                    cases e242
                                    replace p242 := eq_true p242
                                    replace q242 := eq_true q242
                                    refine start_ (n := 7) (S := fun w' => w'.cell? ⟨gb239, 0, none⟩ = some (.int .i64 2) ∧ w'.cell? ⟨gb239, 1, none⟩ = some (.int .i64 0) ∧ w'.cell? ⟨gb239, 2, none⟩ = some (.int .u8 0) ∧ w'.cell? ⟨gb239, 3, none⟩ = some (.int .i64 1) ∧ w'.cell? ⟨gb239, 4, none⟩ = some (.int .i64 (wrap64 (x19_5 + 1))) ∧ w'.cell? (ad242.add ((x19_5).toNat * 5)) = some (.int .i64 ((rd_T38 t235 x19_5).f0)) ∧ w'.cell? ⟨(ad242.add ((x19_5).toNat * 5)).block, (ad242.add ((x19_5).toNat * 5)).off + 1, none⟩ = some (.int .i64 ((rd_T38 t235 x19_5).f1)) ∧ w'.cell? ⟨(ad242.add ((x19_5).toNat * 5)).block, (ad242.add ((x19_5).toNat * 5)).off + 2, none⟩ = some (.int .u8 ((rd_T38 t235 x19_5).f2)) ∧ w'.cell? ⟨(ad242.add ((x19_5).toNat * 5)).block, (ad242.add ((x19_5).toNat * 5)).off + 3, none⟩ = some (.int .i64 ((rd_T38 t235 x19_5).f3)) ∧ w'.cell? ⟨(ad242.add ((x19_5).toNat * 5)).block, (ad242.add ((x19_5).toNat * 5)).off + 4, none⟩ = some (.int .i64 ((rd_T38 t235 x19_5).f4))) (ds := []) #[false, false, false, false, false, false, false] (by kernel_rfl) rfl rfl ⟨(blk_cell BK239.out 0).trans rfl, (blk_cell BK239.out 1).trans rfl, (blk_cell BK239.out 2).trans rfl, (blk_cell BK239.out 3).trans rfl, (blk_cell BK239.out 4).trans rfl, hx242_0, hx242_1, hx242_2, hx242_3, hx242_4⟩ (fun hHeld => ?_)
                                    generalize w62.drew = w63 at HO_7 HO_17 BK239 HB hx242_0 hx242_1 hx242_2 hx242_3 hx242_4 hHeld ⊢
                                    refine pure_ (i := 0) (N := some 133) (v := ?_) (a' := ?_) #[true, false, false, false, false, false, false] rfl rfl (by kernel_rfl) (fun _ _ _ h => h) (Or.inl ⟨by rfl, ?_⟩) ?_ ?_
                                    rotate_left
                                    · intro w'
                                      go_simp
                                      with_reducible rfl
                                    rotate_left
                                    · simp only [Act.put, List.setIfInBounds_toArray, List.set_cons_zero, List.set_cons_succ, i64_w, i32_w]
                                      rfl
                                    refine pure_ (i := 1) (N := some 134) (v := ?_) (a' := ?_) #[true, true, false, false, false, false, false] rfl rfl (by kernel_rfl) (fun _ _ _ h => h) (Or.inl ⟨by rfl, ?_⟩) ?_ ?_
                                    rotate_left
                                    · intro w'
                                      go_simp
                                      with_reducible rfl
                                    rotate_left
                                    · simp only [Act.put, List.setIfInBounds_toArray, List.set_cons_zero, List.set_cons_succ, i64_w, i32_w]
                                      rfl
                                    refine pure_ (i := 2) (N := some 135) (v := ?_) (a' := ?_) #[true, true, true, false, false, false, false] rfl rfl (by kernel_rfl) (fun _ _ _ h => h) (Or.inl ⟨by rfl, ?_⟩) ?_ ?_
                                    rotate_left
                                    · intro w'
                                      go_simp
                                      with_reducible rfl
                                    rotate_left
                                    · simp only [Act.put, List.setIfInBounds_toArray, List.set_cons_zero, List.set_cons_succ, i64_w, i32_w]
                                      rfl
                                    refine take_ (i := 3) (N := some 136) (v := ?_) (a' := ?_) #[true, true, true, true, false, false, false] rfl rfl (by kernel_rfl) (fun _ _ _ h => h) (Or.inl ⟨by rfl, ?_⟩) hHeld ?_ ?_
                                    rotate_left
                                    · rintro w' ⟨s0, s1, s2, s3, s4, s5, s6, s7, s8, s9⟩
                                      go_simp
                                      with_reducible rfl
                                    rotate_left
                                    · simp only [Act.put, List.setIfInBounds_toArray, List.set_cons_zero, List.set_cons_succ, i64_w, i32_w]
                                      rfl
                                    refine take_ (i := 4) (N := some 137) (v := ?_) (a' := ?_) #[true, true, true, true, true, false, false] rfl rfl (by kernel_rfl) (fun _ _ _ h => h) (Or.inl ⟨by rfl, ?_⟩) hHeld ?_ ?_
                                    rotate_left
                                    · rintro w' ⟨s0, s1, s2, s3, s4, s5, s6, s7, s8, s9⟩
                                      go_simp
                                      with_reducible rfl
                                    rotate_left
                                    · simp only [Act.put, List.setIfInBounds_toArray, List.set_cons_zero, List.set_cons_succ, i64_w, i32_w]
                                      rfl
                                    refine one_ (i := 5) (N := some 138) #[true, true, true, true, true, true, false] rfl rfl (by kernel_rfl) (by decide) (fun K hK => ?_)
                                    refine goes_ Try.func23 (by kernel_rfl) rfl #[.agg #[.int .i64 ((rd_T38 t235 x19_5).f0), .int .i64 ((rd_T38 t235 x19_5).f1), .int .u8 ((rd_T38 t235 x19_5).f2), .int .i64 ((rd_T38 t235 x19_5).f3), .int .i64 ((rd_T38 t235 x19_5).f4)], .agg #[.int .i64 2, .int .i64 0, .int .u8 0, .int .i64 1, .int .i64 (wrap64 (x19_5 + 1))]] (by rfl) rfl rfl (by (try simp only [List.map_toArray, List.map_cons, List.map_nil]); first | done | rfl | (simp only [List.length_drop, List.length_take]; rfl)) ?_
                                    with_reducible refine (jotterlaw17_one.calls ((rd_T38 t235 x19_5).f0) ((rd_T38 t235 x19_5).f1) ((rd_T38 t235 x19_5).f2) ((rd_T38 t235 x19_5).f3) ((rd_T38 t235 x19_5).f4) 2 0 0 1 (wrap64 (x19_5 + 1)) true _ A57.out).mono ?_
                                    rintro e w64 ⟨rfl, hb⟩
                                    have HS5_ := (hb.cell (World.block_lt_of_cell? _ _ (hHeld.2.2.2.2.2.1))).trans (hHeld.2.2.2.2.2.1)
                                    have HS6_ := (hb.cell (World.block_lt_of_cell? _ _ (hHeld.2.2.2.2.2.2.1))).trans (hHeld.2.2.2.2.2.2.1)
                                    have HS7_ := (hb.cell (World.block_lt_of_cell? _ _ (hHeld.2.2.2.2.2.2.2.1))).trans (hHeld.2.2.2.2.2.2.2.1)
                                    have HS8_ := (hb.cell (World.block_lt_of_cell? _ _ (hHeld.2.2.2.2.2.2.2.2.1))).trans (hHeld.2.2.2.2.2.2.2.2.1)
                                    have HS9_ := (hb.cell (World.block_lt_of_cell? _ _ (hHeld.2.2.2.2.2.2.2.2.2))).trans (hHeld.2.2.2.2.2.2.2.2.2)
                                    refine ⟨_, rfl, ?_⟩
                                    have n0_ := Aside0.mk (Kd.R_below (by (with_reducible repeat (first | apply Kd.R_alloc | apply Kd.R_drewN | apply Kd.R_drew)); exact HO_7.out) hb)
                                    have n1_ := Aside0.mk (Kd.R_below (by (with_reducible repeat (first | apply Kd.R_alloc | apply Kd.R_drewN | apply Kd.R_drew)); exact HO_17.out) hb)
                                    have n2_ := Aside0.mk (blk_below (g := gb239) (o := .cells #[.int .i64 2, .int .i64 0, .int .u8 0, .int .i64 1, .int .i64 (wrap64 (x19_5 + 1))] 38 (0, 0)) (by (with_reducible repeat (first | refine blk_drewN ?_ _ | refine blk_drew ?_ | refine blk_alloc ?_ _)); exact BK239.out) hb)
                                    have n3_ := Aside0.mk (below_step (by repeat (first | (with_reducible first | exact HB.out | apply below_alloc | apply pw_below_drewN | apply below_drew1 | refine below_set ?_ GE239.out) | exact HB.out)) hb)
                                    clear HO_7
                                    clear HO_17
                                    clear BK239
                                    clear HB
                                    have HO_7 := n0_
                                    have HO_17 := n1_
                                    have BK239 := n2_
                                    have HB := n3_
                                    clear n0_ n1_ n2_ n3_
                                    (try clear hb)
                                    (try clear hb2)
                                    (try clear hk)
                                    (try clear hi)
                                    refine hK.out _ _ ⟨(blk_cell BK239.out 0).trans rfl, (blk_cell BK239.out 1).trans rfl, (blk_cell BK239.out 2).trans rfl, (blk_cell BK239.out 3).trans rfl, (blk_cell BK239.out 4).trans rfl, HS5_, HS6_, HS7_, HS8_, HS9_⟩ (fun hHeld => ?_)
                                    clear hK K
                                    refine norm_ (a' := ?_) ?_ ?_
                                    rotate_left
                                    · show Act.put _ (some 138) _ = _
                                      simp only [Act.put, List.setIfInBounds_toArray, List.set_cons_zero, List.set_cons_succ, i64_w, i32_w]
                                      rfl
                                    refine pure_ (i := 6) (N := some 139) (v := ?_) (a' := ?_) #[true, true, true, true, true, true, true] rfl rfl (by kernel_rfl) (fun _ _ _ h => h) (Or.inl ⟨by rfl, ?_⟩) ?_ ?_
                                    rotate_left
                                    · intro w'
                                      go_simp
                                      with_reducible rfl
                                    rotate_left
                                    · simp only [Act.put, List.setIfInBounds_toArray, List.set_cons_zero, List.set_cons_succ, i64_w, i32_w]
                                      rfl
                                    refine done_ (by kernel_rfl) ?_
                                    try go_wp2
                                    go_roundg k5
                                    case measure => have := HK1.out; have := HK2.out; have := HJ14.out; have := HJ24.out; have := HK5.out; omega
                                    case rel => exact ⟨(wrap64 (x19_5 + 1)), (by first | rfl | (simp; done) | (simp [*]; done)), H', ⟨by have := HK1.out; have := HK2.out; have := HJ14.out; have := HJ24.out; have := HK5.out; omega⟩, ⟨by (with_reducible repeat (first | apply Kd.R_alloc | apply Kd.R_drewN | apply Kd.R_drew)); exact HO_7.out⟩, ⟨by (with_reducible repeat (first | apply Kd.R_alloc | apply Kd.R_drewN | apply Kd.R_drew)); exact Kd.R_mono HO_17.out (fun _ hk => trivial)⟩, ⟨by repeat (first | (with_reducible first | exact HB.out | apply below_alloc | apply pw_below_drewN | apply below_drew1 | refine below_set ?_ GE239.out) | exact HB.out)⟩⟩
                                  · replace c58 := Bool.eq_false_iff.mpr c58
                                    subst c58
                                    have H1 : (some false) = some r := by rw [if_neg (show ¬ (false = true) by decide)] at H; exact H
                                    clear H
                                    have H := H1
                                    clear H1
                                    obtain rfl := Option.some.inj H
                                    obtain ⟨Ao65, co65, eo65⟩ := Kd.R_slice HO_17.out
                                    subst eo65
                                    try go_wp2_with (first | ((with_reducible refine gate_dst (N := 20) rfl ?_); (try (refine gate_guard (by rfl) ?_; dsimp only)); refine box_event ?hg (N := 20) ?hd (cs := #[.int .i64 0, .int .i64 0, .int .u8 0, .int .i64 0, .int .i64 0]) (t := 38) ?hr ?_; (case hd => rfl); (case hg => rfl); (case hr => first | (go_simp; done) | (go_simp; rfl)); intro gb239 hg w66 hbox hb; have n0_ := Aside0.mk (Kd.R_below (by (with_reducible repeat (first | apply Kd.R_alloc | apply Kd.R_drewN | apply Kd.R_drew)); exact HO_7.out) hb); have n1_ := Aside0.mk (Kd.R_below (Kd.R_elderB (by (with_reducible repeat (first | apply Kd.R_alloc | apply Kd.R_drewN | apply Kd.R_drew)); exact HO_17.out) gb239 (Nat.le_of_eq hg.symm)) hb); have n2_ := Aside0.mk (below_step (by repeat (first | (with_reducible first | exact HB.out | apply below_alloc | apply pw_below_drewN | apply below_drew1) | exact HB.out)) hb); have n3_ := Aside0.mk (hbox); have n4_ := Aside0.mk ((by rw [hg]; exact (below_size (by repeat (first | (with_reducible first | exact HB.out | apply below_alloc | apply pw_below_drewN | apply below_drew1) | exact HB.out))) : w.heap.size ≤ gb239)); have n5_ := Aside0.mk ((by rw [hg]; exact (below_size (by repeat (first | (with_reducible first | exact HB.out | apply below_alloc | apply pw_below_drewN | apply below_drew1) | exact HB.out))) : w.heap.size ≤ gb239)); clear HO_7; clear HO_17; clear HB; have HO_7 := n0_; have HO_17 := n1_; have HB := n2_; have BK239 := n3_; have GW239 := n4_; have GE239 := n5_; clear n0_ n1_ n2_ n3_ n4_ n5_; clear hb hbox hg; have hcz67_0 : w66.cell? ⟨gb239, 0, none⟩ = some (.int .i64 0) := (blk_cell BK239.out 0).trans rfl; have hcz67_1 : w66.cell? ⟨gb239, 1, none⟩ = some (.int .i64 0) := (blk_cell BK239.out 1).trans rfl; have hcz67_2 : w66.cell? ⟨gb239, 2, none⟩ = some (.int .u8 0) := (blk_cell BK239.out 2).trans rfl; have hcz67_3 : w66.cell? ⟨gb239, 3, none⟩ = some (.int .i64 0) := (blk_cell BK239.out 3).trans rfl; have hcz67_4 : w66.cell? ⟨gb239, 4, none⟩ = some (.int .i64 0) := (blk_cell BK239.out 4).trans rfl; have hfz67_0 := blk_frozen BK239.out 0; have hfz67_1 := blk_frozen BK239.out 1; have hfz67_2 := blk_frozen BK239.out 2; have hfz67_3 := blk_frozen BK239.out 3; have hfz67_4 := blk_frozen BK239.out 4))
                                    have n0_ : Aside0 (Kd.R (Kd.int .u8) 5 (((((w66.setCell ⟨gb239, 0, none⟩ (.int .i64 2)).setCell ⟨gb239, 1, none⟩ (.int .i64 0)).setCell ⟨gb239, 2, none⟩ (.int .u8 0)).setCell ⟨gb239, 3, none⟩ (.int .i64 1)).setCell ⟨gb239, 4, none⟩ (.int .i64 (wrap64 (x19_5 + 1)))) w.heap.size (fun _ => True) u7 x7_1) := ⟨by (with_reducible repeat (first | apply Kd.R_alloc | apply Kd.R_drewN | apply Kd.R_drew)); exact Kd.R_mono (Kd.R_far (p := ⟨gb239, 4, none⟩) (Kd.R_far (p := ⟨gb239, 3, none⟩) (Kd.R_far (p := ⟨gb239, 2, none⟩) (Kd.R_far (p := ⟨gb239, 1, none⟩) (Kd.R_far (p := ⟨gb239, 0, none⟩) (Kd.R_types HO_7.out BK239.out (by decide)) (fun _ hk => hk.2) (.int .i64 2)) (fun _ hk => hk.2) (.int .i64 0)) (fun _ hk => hk.2) (.int .u8 0)) (fun _ hk => hk.2) (.int .i64 1)) (fun _ hk => hk.2) (.int .i64 (wrap64 (x19_5 + 1)))) (fun _ hk => trivial)⟩
                                    have n1_ : Aside0 (Kd.R k38 38 (((((w66.setCell ⟨gb239, 0, none⟩ (.int .i64 2)).setCell ⟨gb239, 1, none⟩ (.int .i64 0)).setCell ⟨gb239, 2, none⟩ (.int .u8 0)).setCell ⟨gb239, 3, none⟩ (.int .i64 1)).setCell ⟨gb239, 4, none⟩ (.int .i64 (wrap64 (x19_5 + 1)))) w.heap.size (fun k_ => k_ ≠ gb239) (.slice Ao65 t235.length co65) t235) := ⟨by (with_reducible repeat (first | apply Kd.R_alloc | apply Kd.R_drewN | apply Kd.R_drew)); exact Kd.R_mono (Kd.R_far (p := ⟨gb239, 4, none⟩) (Kd.R_far (p := ⟨gb239, 3, none⟩) (Kd.R_far (p := ⟨gb239, 2, none⟩) (Kd.R_far (p := ⟨gb239, 1, none⟩) (Kd.R_far (p := ⟨gb239, 0, none⟩) (Kd.R_mono HO_17.out (fun k_ hk => (⟨hk, hk.2⟩ : _ ∧ k_ ≠ gb239))) (fun _ hk => hk.2) (.int .i64 2)) (fun _ hk => hk.2) (.int .i64 0)) (fun _ hk => hk.2) (.int .u8 0)) (fun _ hk => hk.2) (.int .i64 1)) (fun _ hk => hk.2) (.int .i64 (wrap64 (x19_5 + 1)))) (fun _ hk => hk.1.2)⟩
                                    have n2_ : Aside0 ((((((w66.setCell ⟨gb239, 0, none⟩ (.int .i64 2)).setCell ⟨gb239, 1, none⟩ (.int .i64 0)).setCell ⟨gb239, 2, none⟩ (.int .u8 0)).setCell ⟨gb239, 3, none⟩ (.int .i64 1)).setCell ⟨gb239, 4, none⟩ (.int .i64 (wrap64 (x19_5 + 1)))).heap[gb239]? = some (.cells #[.int .i64 2, .int .i64 0, .int .u8 0, .int .i64 1, .int .i64 (wrap64 (x19_5 + 1))] 38 (0, 0))) := ⟨by (with_reducible repeat (first | refine blk_drewN ?_ _ | refine blk_drew ?_ | refine blk_alloc ?_ _)); refine blk_put (cs := #[.int .i64 2, .int .i64 0, .int .u8 0, .int .i64 1, .int .i64 0]) ?_ 4 _ rfl; (with_reducible repeat (first | refine blk_drewN ?_ _ | refine blk_drew ?_ | refine blk_alloc ?_ _)); refine blk_put (cs := #[.int .i64 2, .int .i64 0, .int .u8 0, .int .i64 0, .int .i64 0]) ?_ 3 _ rfl; (with_reducible repeat (first | refine blk_drewN ?_ _ | refine blk_drew ?_ | refine blk_alloc ?_ _)); refine blk_put (cs := #[.int .i64 2, .int .i64 0, .int .u8 0, .int .i64 0, .int .i64 0]) ?_ 2 _ rfl; (with_reducible repeat (first | refine blk_drewN ?_ _ | refine blk_drew ?_ | refine blk_alloc ?_ _)); refine blk_put (cs := #[.int .i64 2, .int .i64 0, .int .u8 0, .int .i64 0, .int .i64 0]) ?_ 1 _ rfl; (with_reducible repeat (first | refine blk_drewN ?_ _ | refine blk_drew ?_ | refine blk_alloc ?_ _)); refine blk_put (cs := #[.int .i64 0, .int .i64 0, .int .u8 0, .int .i64 0, .int .i64 0]) ?_ 0 _ rfl; (with_reducible repeat (first | refine blk_drewN ?_ _ | refine blk_drew ?_ | refine blk_alloc ?_ _)); exact BK239.out⟩
                                    have n3_ : Aside0 (Below w.heap.size w (((((w66.setCell ⟨gb239, 0, none⟩ (.int .i64 2)).setCell ⟨gb239, 1, none⟩ (.int .i64 0)).setCell ⟨gb239, 2, none⟩ (.int .u8 0)).setCell ⟨gb239, 3, none⟩ (.int .i64 1)).setCell ⟨gb239, 4, none⟩ (.int .i64 (wrap64 (x19_5 + 1))))) := ⟨by repeat (first | (with_reducible first | exact HB.out | apply below_alloc | apply pw_below_drewN | apply below_drew1 | refine below_set ?_ GE239.out) | exact HB.out)⟩
                                    (try clear HO_7)
                                    (try clear HO_17)
                                    (try clear BK239)
                                    (try clear HB)
                                    generalize (((((w66.setCell ⟨gb239, 0, none⟩ (.int .i64 2)).setCell ⟨gb239, 1, none⟩ (.int .i64 0)).setCell ⟨gb239, 2, none⟩ (.int .u8 0)).setCell ⟨gb239, 3, none⟩ (.int .i64 1)).setCell ⟨gb239, 4, none⟩ (.int .i64 (wrap64 (x19_5 + 1)))) = w68 at n0_ n1_ n2_ n3_ ⊢
                                    have HO_7 := n0_
                                    have HO_17 := n1_
                                    have BK239 := n2_
                                    have HB := n3_
                                    clear n0_ n1_ n2_ n3_
                                    have n0_ := Aside0.mk (Kd.R_drew HO_7.out)
                                    have n1_ := Aside0.mk (Kd.R_drew HO_17.out)
                                    have n2_ := Aside0.mk (blk_drew BK239.out)
                                    have n3_ := Aside0.mk (below_drew1 HB.out)
                                    clear HO_7
                                    clear HO_17
                                    clear BK239
                                    clear HB
                                    have HO_7 := n0_
                                    have HO_17 := n1_
                                    have BK239 := n2_
                                    have HB := n3_
                                    clear n0_ n1_ n2_ n3_
                                    have p242 : 0 ≤ (x19_5 : Int) := of_decide_eq_true (by first | (with_reducible assumption) | assumption)
                                    have q242 : x19_5 < (t235.length : Int) := of_decide_eq_true (by first | (with_reducible assumption) | assumption)
                                    obtain ⟨ad242, e242, hx242_0, hx242_1, hx242_2, hx242_3, hx242_4⟩ := at_T38 (Kd.R_reads' HO_17.out).2.2 x19_5 p242 q242
                                    cases e242
                                    replace p242 := eq_true p242
                                    replace q242 := eq_true q242
                                    refine start_ (n := 7) (S := fun w' => w'.cell? ⟨gb239, 0, none⟩ = some (.int .i64 2) ∧ w'.cell? ⟨gb239, 1, none⟩ = some (.int .i64 0) ∧ w'.cell? ⟨gb239, 2, none⟩ = some (.int .u8 0) ∧ w'.cell? ⟨gb239, 3, none⟩ = some (.int .i64 1) ∧ w'.cell? ⟨gb239, 4, none⟩ = some (.int .i64 (wrap64 (x19_5 + 1))) ∧ w'.cell? (ad242.add ((x19_5).toNat * 5)) = some (.int .i64 ((rd_T38 t235 x19_5).f0)) ∧ w'.cell? ⟨(ad242.add ((x19_5).toNat * 5)).block, (ad242.add ((x19_5).toNat * 5)).off + 1, none⟩ = some (.int .i64 ((rd_T38 t235 x19_5).f1)) ∧ w'.cell? ⟨(ad242.add ((x19_5).toNat * 5)).block, (ad242.add ((x19_5).toNat * 5)).off + 2, none⟩ = some (.int .u8 ((rd_T38 t235 x19_5).f2)) ∧ w'.cell? ⟨(ad242.add ((x19_5).toNat * 5)).block, (ad242.add ((x19_5).toNat * 5)).off + 3, none⟩ = some (.int .i64 ((rd_T38 t235 x19_5).f3)) ∧ w'.cell? ⟨(ad242.add ((x19_5).toNat * 5)).block, (ad242.add ((x19_5).toNat * 5)).off + 4, none⟩ = some (.int .i64 ((rd_T38 t235 x19_5).f4))) (ds := []) #[false, false, false, false, false, false, false] (by kernel_rfl) rfl rfl ⟨(blk_cell BK239.out 0).trans rfl, (blk_cell BK239.out 1).trans rfl, (blk_cell BK239.out 2).trans rfl, (blk_cell BK239.out 3).trans rfl, (blk_cell BK239.out 4).trans rfl, hx242_0, hx242_1, hx242_2, hx242_3, hx242_4⟩ (fun hHeld => ?_)
                                    generalize w68.drew = w69 at HO_7 HO_17 BK239 HB hx242_0 hx242_1 hx242_2 hx242_3 hx242_4 hHeld ⊢
                                    refine pure_ (i := 0) (N := some 133) (v := ?_) (a' := ?_) #[true, false, false, false, false, false, false] rfl rfl (by kernel_rfl) (fun _ _ _ h => h) (Or.inl ⟨by rfl, ?_⟩) ?_ ?_
                                    rotate_left
                                    · intro w'
                                      go_simp
                                      with_reducible rfl
                                    rotate_left
                                    · simp only [Act.put, List.setIfInBounds_toArray, List.set_cons_zero, List.set_cons_succ, i64_w, i32_w]
                                      rfl
                                    refine pure_ (i := 1) (N := some 134) (v := ?_) (a' := ?_) #[true, true, false, false, false, false, false] rfl rfl (by kernel_rfl) (fun _ _ _ h => h) (Or.inl ⟨by rfl, ?_⟩) ?_ ?_
                                    rotate_left
                                    · intro w'
                                      go_simp
                                      with_reducible rfl
                                    rotate_left
                                    · simp only [Act.put, List.setIfInBounds_toArray, List.set_cons_zero, List.set_cons_succ, i64_w, i32_w]
                                      rfl
                                    refine pure_ (i := 2) (N := some 135) (v := ?_) (a' := ?_) #[true, true, true, false, false, false, false] rfl rfl (by kernel_rfl) (fun _ _ _ h => h) (Or.inl ⟨by rfl, ?_⟩) ?_ ?_
                                    rotate_left
                                    · intro w'
                                      go_simp
                                      with_reducible rfl
                                    rotate_left
                                    · simp only [Act.put, List.setIfInBounds_toArray, List.set_cons_zero, List.set_cons_succ, i64_w, i32_w]
                                      rfl
                                    refine take_ (i := 3) (N := some 136) (v := ?_) (a' := ?_) #[true, true, true, true, false, false, false] rfl rfl (by kernel_rfl) (fun _ _ _ h => h) (Or.inl ⟨by rfl, ?_⟩) hHeld ?_ ?_
                                    rotate_left
                                    · rintro w' ⟨s0, s1, s2, s3, s4, s5, s6, s7, s8, s9⟩
                                      go_simp
                                      with_reducible rfl
                                    rotate_left
                                    · simp only [Act.put, List.setIfInBounds_toArray, List.set_cons_zero, List.set_cons_succ, i64_w, i32_w]
                                      rfl
                                    refine take_ (i := 4) (N := some 137) (v := ?_) (a' := ?_) #[true, true, true, true, true, false, false] rfl rfl (by kernel_rfl) (fun _ _ _ h => h) (Or.inl ⟨by rfl, ?_⟩) hHeld ?_ ?_
                                    rotate_left
                                    · rintro w' ⟨s0, s1, s2, s3, s4, s5, s6, s7, s8, s9⟩
                                      go_simp
                                      with_reducible rfl
                                    rotate_left
                                    · simp only [Act.put, List.setIfInBounds_toArray, List.set_cons_zero, List.set_cons_succ, i64_w, i32_w]
                                      rfl
                                    refine one_ (i := 5) (N := some 138) #[true, true, true, true, true, true, false] rfl rfl (by kernel_rfl) (by decide) (fun K hK => ?_)
                                    refine goes_ Try.func23 (by kernel_rfl) rfl #[.agg #[.int .i64 ((rd_T38 t235 x19_5).f0), .int .i64 ((rd_T38 t235 x19_5).f1), .int .u8 ((rd_T38 t235 x19_5).f2), .int .i64 ((rd_T38 t235 x19_5).f3), .int .i64 ((rd_T38 t235 x19_5).f4)], .agg #[.int .i64 2, .int .i64 0, .int .u8 0, .int .i64 1, .int .i64 (wrap64 (x19_5 + 1))]] (by rfl) rfl rfl (by (try simp only [List.map_toArray, List.map_cons, List.map_nil]); first | done | rfl | (simp only [List.length_drop, List.length_take]; rfl)) ?_
                                    with_reducible refine (jotterlaw17_one.calls ((rd_T38 t235 x19_5).f0) ((rd_T38 t235 x19_5).f1) ((rd_T38 t235 x19_5).f2) ((rd_T38 t235 x19_5).f3) ((rd_T38 t235 x19_5).f4) 2 0 0 1 (wrap64 (x19_5 + 1)) false _ A57.out).mono ?_
                                    rintro e w70 ⟨rfl, hb⟩
                                    have HS5_ := (hb.cell (World.block_lt_of_cell? _ _ (hHeld.2.2.2.2.2.1))).trans (hHeld.2.2.2.2.2.1)
                                    have HS6_ := (hb.cell (World.block_lt_of_cell? _ _ (hHeld.2.2.2.2.2.2.1))).trans (hHeld.2.2.2.2.2.2.1)
                                    have HS7_ := (hb.cell (World.block_lt_of_cell? _ _ (hHeld.2.2.2.2.2.2.2.1))).trans (hHeld.2.2.2.2.2.2.2.1)
                                    have HS8_ := (hb.cell (World.block_lt_of_cell? _ _ (hHeld.2.2.2.2.2.2.2.2.1))).trans (hHeld.2.2.2.2.2.2.2.2.1)
                                    have HS9_ := (hb.cell (World.block_lt_of_cell? _ _ (hHeld.2.2.2.2.2.2.2.2.2))).trans (hHeld.2.2.2.2.2.2.2.2.2)
                                    refine ⟨_, rfl, ?_⟩
                                    have n0_ := Aside0.mk (Kd.R_below (by (with_reducible repeat (first | apply Kd.R_alloc | apply Kd.R_drewN | apply Kd.R_drew)); exact HO_7.out) hb)
                                    have n1_ := Aside0.mk (Kd.R_below (by (with_reducible repeat (first | apply Kd.R_alloc | apply Kd.R_drewN | apply Kd.R_drew)); exact HO_17.out) hb)
                                    have n2_ := Aside0.mk (blk_below (g := gb239) (o := .cells #[.int .i64 2, .int .i64 0, .int .u8 0, .int .i64 1, .int .i64 (wrap64 (x19_5 + 1))] 38 (0, 0)) (by (with_reducible repeat (first | refine blk_drewN ?_ _ | refine blk_drew ?_ | refine blk_alloc ?_ _)); exact BK239.out) hb)
                                    have n3_ := Aside0.mk (below_step (by repeat (first | (with_reducible first | exact HB.out | apply below_alloc | apply pw_below_drewN | apply below_drew1 | refine below_set ?_ GE239.out) | exact HB.out)) hb)
                                    clear HO_7
                                    clear HO_17
                                    clear BK239
                                    clear HB
                                    have HO_7 := n0_
                                    have HO_17 := n1_
                                    have BK239 := n2_
                                    have HB := n3_
                                    clear n0_ n1_ n2_ n3_
                                    (try clear hb)
                                    (try clear hb2)
                                    (try clear hk)
                                    (try clear hi)
                                    refine hK.out _ _ ⟨(blk_cell BK239.out 0).trans rfl, (blk_cell BK239.out 1).trans rfl, (blk_cell BK239.out 2).trans rfl, (blk_cell BK239.out 3).trans rfl, (blk_cell BK239.out 4).trans rfl, HS5_, HS6_, HS7_, HS8_, HS9_⟩ (fun hHeld => ?_)
                                    clear hK K
                                    refine norm_ (a' := ?_) ?_ ?_
                                    rotate_left
                                    · show Act.put _ (some 138) _ = _
                                      simp only [Act.put, List.setIfInBounds_toArray, List.set_cons_zero, List.set_cons_succ, i64_w, i32_w]
                                      rfl
                                    refine pure_ (i := 6) (N := some 139) (v := ?_) (a' := ?_) #[true, true, true, true, true, true, true] rfl rfl (by kernel_rfl) (fun _ _ _ h => h) (Or.inl ⟨by rfl, ?_⟩) ?_ ?_
                                    rotate_left
                                    · intro w'
                                      go_simp
                                      with_reducible rfl
                                    rotate_left
                                    · simp only [Act.put, List.setIfInBounds_toArray, List.set_cons_zero, List.set_cons_succ, i64_w, i32_w]
                                      rfl
                                    refine done_ (by kernel_rfl) ?_
                                    try go_wp2
                                    go_ret
                                    exact ⟨by first | rfl | (simp [errW_none, errW_some] <;> rfl) | (simp [*, errW_none, errW_some] <;> rfl), by repeat (first | (with_reducible first | exact HB.out | apply below_alloc | apply pw_below_drewN | apply below_drew1 | refine below_set ?_ GE239.out) | exact HB.out)⟩
                                · rw [if_neg c56] at H
                                  exact absurd H (by simp)
                            · rw [if_neg c35] at H
                              have c35b0 : decide (x19_5 < (t235.length : Int)) = false := decide_eq_false c35
                              clear c35
                              have H' := Aside0.mk H
                              clear H
                              obtain ⟨Ao71, co71, eo71⟩ := Kd.R_slice HO_17.out
                              subst eo71
                              go_wp2
                              go_loopg [7] k5 (fun kq v7 w' => ∃ (x7_6 : List Int), Aside0 (jotterlaw17_DiffApart.l3 kq t223 a2 x7_6 (strOfNums x7_1) = some r) ∧ Aside0 (kq ≤ k5) ∧ Aside0 (Kd.R (Kd.int .u8) 5 w' w.heap.size (fun _ => True) v7 x7_6) ∧ Aside0 (Below w.heap.size w w'))
                              case atStart => exact ⟨(x7_1), H', ⟨Nat.le_refl _⟩, ⟨by (with_reducible repeat (first | apply Kd.R_alloc | apply Kd.R_drewN | apply Kd.R_drew)); exact HO_7.out⟩, ⟨by repeat (first | (with_reducible first | exact HB.out | apply below_alloc | apply pw_below_drewN | apply below_drew1) | exact HB.out)⟩⟩
                              case round =>
                                clear H'
                                try clear c2
                                try clear p2
                                try clear q2
                                try clear hx2
                                try clear c3
                                try clear c4
                                try clear p4
                                try clear q4
                                try clear hx4
                                try clear c5
                                try clear p6
                                try clear c23
                                try clear p24
                                try clear q24
                                try clear hx24
                                try clear c32
                                try clear c32b0
                                try clear c32b1
                                try clear c35
                                try clear c35b0
                                try clear c36
                                try clear c36b0
                                try clear c38
                                try clear c38b0
                                try clear c39
                                try clear c39b0
                                try clear p40
                                try clear q40
                                try clear hx40
                                try clear c41
                                try clear c41b0
                                try clear c43
                                try clear c56
                                try clear c56b0
                                try clear c58
                                try clear p64
                                try clear hcz46_0
                                try clear hcz46_1
                                try clear hcz46_2
                                try clear hcz46_3
                                try clear hcz46_4
                                try clear hcz52_0
                                try clear hcz52_1
                                try clear hcz52_2
                                try clear hcz52_3
                                try clear hcz52_4
                                try clear hcz61_0
                                try clear hcz61_1
                                try clear hcz61_2
                                try clear hcz61_3
                                try clear hcz61_4
                                try clear hcz67_0
                                try clear hcz67_1
                                try clear hcz67_2
                                try clear hcz67_3
                                try clear hcz67_4
                                try clear hfz46_0
                                try clear hfz46_1
                                try clear hfz46_2
                                try clear hfz46_3
                                try clear hfz46_4
                                try clear hfz52_0
                                try clear hfz52_1
                                try clear hfz52_2
                                try clear hfz52_3
                                try clear hfz52_4
                                try clear hfz61_0
                                try clear hfz61_1
                                try clear hfz61_2
                                try clear hfz61_3
                                try clear hfz61_4
                                try clear hfz67_0
                                try clear hfz67_1
                                try clear hfz67_2
                                try clear hfz67_3
                                try clear hfz67_4
                                try clear hx240_0
                                try clear hx240_1
                                try clear hx240_2
                                try clear hx240_3
                                try clear hx240_4
                                try clear hx242_0
                                try clear hx242_1
                                try clear hx242_2
                                try clear hx242_3
                                try clear hx242_4
                                try clear p2
                                try clear p240
                                try clear p242
                                try clear p40
                                try clear p6
                                try clear q240
                                try clear q242
                                try clear q40
                                obtain ⟨x7_6, HA, HK6, HO_7, HB⟩ := hrel
                                cases gk with
                                | zero => exact absurd HA.out (by simp [jotterlaw17_DiffApart.l3])
                                | succ k6 =>
                                  have H := HA.out
                                  clear HA
                                  simp only [jotterlaw17_DiffApart.l3] at H
                                  by_cases c72 : (x7_6.length : Int) < 512
                                  · rw [if_pos c72] at H
                                    have c72b0 : decide ((x7_6.length : Int) < 512) = true := decide_eq_true c72
                                    have c72b1 : decide (x7_6.length < 512) = true := decide_eq_true (by omega)
                                    clear c72
                                    by_cases c73 : x7_6.length < 140737488355328
                                    · rw [if_pos c73] at H
                                      have LMc73 := Aside0.mk c73
                                      clear c73
                                      obtain ⟨y244, hy244⟩ : ∃ y_ : List Int, y_ = (x7_6 ++ [122]) := ⟨_, rfl⟩
                                      replace H : (jotterlaw17_DiffApart.l3 k6 t223 a2 y244 (strOfNums x7_1)) = some r := by first | (rw [hy244]; with_reducible exact H) | (have H2_ := (Option.bind_some _ _).symm.trans H; rw [hy244]; with_reducible exact H2_) | (have H2_ := (Option.bind_some _ _).symm.trans H; with_reducible exact H2_) | with_reducible exact H | (rw [hy244]; exact H) | exact H
                                      have Ny244 := Aside0.mk hy244
                                      clear hy244
                                      have H' := Aside0.mk H
                                      clear H
                                      obtain ⟨Ao74, co74, eo74⟩ := Kd.R_slice HO_7.out
                                      subst eo74
                                      go_wp2_with (first | ((with_reducible refine gate_builtin (b := .append) (xs := #[.tmp 143, .tmp 144]) rfl ?_); (try (refine gate_guard (by rfl) ?_; dsimp only)); at_builtin; refine Kd.R_append (Kd.int .u8) (w0 := w) w.heap.size rfl (.tmp 143) (.tmp 144) 49 5 (.int .u8 0) 1 rfl Try.underlying49 info5 rfl (by decide) (by omega) (.slice Ao74 x7_6.length co74) x7_6 122 [.int .u8 122] (fun _ => True) (fun _ => False) rfl rfl ?aP (fun _ hk => hk.elim) ?aF ?aO ?aB ?aS ?aL ?_; (case aP => exact rfl); (case aB => exact (by repeat (first | (with_reducible first | exact HB.out | apply below_alloc | apply pw_below_drewN | apply below_drew1) | exact HB.out))); (case aF => exact (fun _ _ => trivial)); (case aO => exact (by (with_reducible repeat (first | apply Kd.R_alloc | apply Kd.R_drewN | apply Kd.R_drew)); exact HO_7.out)); (case aS => exact (below_size (by repeat (first | (with_reducible first | exact HB.out | apply below_alloc | apply pw_below_drewN | apply below_drew1) | exact HB.out)))); (case aL => have := LMc73.out; omega); intro v245 w75 ho hb hg hat; rw [← Ny244.out] at ho; have n0_ := Aside0.mk (hb); have n1_ := Aside0.mk (ho); clear HB; clear HO_7; have HB := n0_; have HO246 := n1_; clear n0_ n1_; clear ho hb hg hat))
                                      go_roundg k6
                                      case measure => have := HK1.out; have := HK2.out; have := HJ14.out; have := HJ24.out; have := HK5.out; have := HK6.out; omega
                                      case rel => exact ⟨(y244), H', ⟨by have := HK1.out; have := HK2.out; have := HJ14.out; have := HJ24.out; have := HK5.out; have := HK6.out; omega⟩, ⟨by (with_reducible repeat (first | apply Kd.R_alloc | apply Kd.R_drewN | apply Kd.R_drew)); exact HO246.out⟩, ⟨by repeat (first | (with_reducible first | exact HB.out | apply below_alloc | apply pw_below_drewN | apply below_drew1) | exact HB.out)⟩⟩
                                    · rw [if_neg c73] at H
                                      exact absurd H (by simp)
                                  · rw [if_neg c72] at H
                                    have c72b0 : decide ((x7_6.length : Int) < 512) = false := decide_eq_false c72
                                    have c72b1 : decide (x7_6.length < 512) = false := decide_eq_false (by omega)
                                    clear c72
                                    replace H := Option.bind_eq_some_iff.mp H
                                    obtain ⟨⟨t247, t248⟩, A760, H⟩ := H
                                    replace H : (if (strOfNums x7_6).size + 1 ≤ 9223372036854775807 then ((diff_Distance.f (⟨#[]⟩ : ByteArray) ((strOfNums x7_6) ++ (⟨#[122]⟩ : ByteArray))).bind fun bt249 => (if t248 = 0 then (if bt249.2 = 170 then (if a2 ≥ 32 then (if 0 ≤ (wrap64 (Int.tdiv t223 2)) then (if (wrap64 (Int.tdiv t223 2)) ≤ ((strOfNums x7_1).size : Int) then ((diff_Common.f ((strOfNums x7_1).extract 0 ((wrap64 (Int.tdiv t223 2)) : Int).toNat) (strOfNums (([113, a2] : List Int)))).bind fun bt254 => (if ((bt254.2 == 0) == (decide (a2 ≤ 126))) = true then (if a2 ≤ 126 then (some true) else (some (bt254.2 == 171))) else (some false))) else (none)) else (none)) else (if 0 ≤ (wrap64 (Int.tdiv t223 2)) then (if (wrap64 (Int.tdiv t223 2)) ≤ ((strOfNums x7_1).size : Int) then ((diff_Common.f ((strOfNums x7_1).extract 0 ((wrap64 (Int.tdiv t223 2)) : Int).toNat) (strOfNums (([113, a2] : List Int)))).bind fun bt259 => (if ((bt259.2 == 0) == false) = true then (some (bt259.2 == 171)) else (some false))) else (none)) else (none))) else (some false)) else (some false))) else (none)) = some r := H
                                    have A76 := Aside0.mk A760
                                    clear A760
                                    by_cases c77 : (strOfNums x7_6).size + 1 ≤ 9223372036854775807
                                    · rw [if_pos c77] at H
                                      have c77b0 := eq_true c77
                                      have c77b1 : decide ((strOfNums x7_6).size + 1 ≤ 9223372036854775807) = true := decide_eq_true c77
                                      try have c77b2 : (9223372036854775807 < (strOfNums x7_6).size + 1) = False := eq_false (Nat.not_lt.2 c77)
                                      replace H := Option.bind_eq_some_iff.mp H
                                      obtain ⟨⟨t249, t250⟩, A780, H⟩ := H
                                      replace H : (if t248 = 0 then (if t250 = 170 then (if a2 ≥ 32 then (if 0 ≤ (wrap64 (Int.tdiv t223 2)) then (if (wrap64 (Int.tdiv t223 2)) ≤ ((strOfNums x7_1).size : Int) then ((diff_Common.f ((strOfNums x7_1).extract 0 ((wrap64 (Int.tdiv t223 2)) : Int).toNat) (strOfNums (([113, a2] : List Int)))).bind fun bt254 => (if ((bt254.2 == 0) == (decide (a2 ≤ 126))) = true then (if a2 ≤ 126 then (some true) else (some (bt254.2 == 171))) else (some false))) else (none)) else (none)) else (if 0 ≤ (wrap64 (Int.tdiv t223 2)) then (if (wrap64 (Int.tdiv t223 2)) ≤ ((strOfNums x7_1).size : Int) then ((diff_Common.f ((strOfNums x7_1).extract 0 ((wrap64 (Int.tdiv t223 2)) : Int).toNat) (strOfNums (([113, a2] : List Int)))).bind fun bt259 => (if ((bt259.2 == 0) == false) = true then (some (bt259.2 == 171)) else (some false))) else (none)) else (none))) else (some false)) else (some false)) = some r := H
                                      have A78 := Aside0.mk A780
                                      clear A780
                                      by_cases c79 : t248 = 0
                                      · rw [if_pos c79] at H
                                        have c79b0 : (t248 == 0) = true := beq_iff_eq.mpr c79
                                        have c79b1 : (t248 != 0) = false := bne_eq_false_iff_eq.mpr c79
                                        clear c79
                                        by_cases c80 : t250 = 170
                                        · rw [if_pos c80] at H
                                          have c80b0 : (t250 == 170) = true := beq_iff_eq.mpr c80
                                          have c80b1 : (t250 != 170) = false := bne_eq_false_iff_eq.mpr c80
                                          clear c80
                                          by_cases c81 : a2 ≥ 32
                                          · rw [if_pos c81] at H
                                            have c81b0 : decide (32 ≤ a2) = true := decide_eq_true c81
                                            clear c81
                                            obtain ⟨ji82, hji82⟩ : ∃ j_ : Int, (wrap64 (Int.tdiv t223 2)) = j_ := ⟨_, rfl⟩
                                            replace H : (if 0 ≤ (ji82) then (if (ji82) ≤ ((strOfNums x7_1).size : Int) then ((diff_Common.f ((strOfNums x7_1).extract 0 ((ji82) : Int).toNat) (strOfNums (([113, a2] : List Int)))).bind fun bt254 => (if ((bt254.2 == 0) == (decide (a2 ≤ 126))) = true then (if a2 ≤ 126 then (some true) else (some (bt254.2 == 171))) else (some false))) else (none)) else (none)) = some r := by first | (rw [hji82] at H; exact H) | (simp only [hji82] at H ⊢; exact H)
                                            (try rw [hji82] at A76)
                                            (try rw [hji82] at A78)
                                            have hji82w : (IntKind.i64.wrap (Int.tdiv t223 2)) = ji82 := (i64_w _).trans hji82
                                            by_cases c83 : 0 ≤ (ji82)
                                            · rw [if_pos c83] at H
                                              have c83b0 := eq_true c83
                                              have c83b1 : decide (0 ≤ (ji82)) = true := decide_eq_true c83
                                              clear c83
                                              by_cases c84 : (ji82) ≤ ((strOfNums x7_1).size : Int)
                                              · rw [if_pos c84] at H
                                                have c84b0 := eq_true c84
                                                have c84b1 : decide ((ji82) ≤ ((strOfNums x7_1).size : Int)) = true := decide_eq_true c84
                                                clear c84
                                                obtain ⟨y251, hy251⟩ : ∃ y_ : List Int, y_ = (([113, a2] : List Int)) := ⟨_, rfl⟩
                                                replace H : ((diff_Common.f ((strOfNums x7_1).extract 0 ((ji82) : Int).toNat) (strOfNums y251)).bind fun bt254 => (if ((bt254.2 == 0) == (decide (a2 ≤ 126))) = true then (if a2 ≤ 126 then (some true) else (some (bt254.2 == 171))) else (some false))) = some r := by first | (rw [hy251]; with_reducible exact H) | (have H2_ := (Option.bind_some _ _).symm.trans H; rw [hy251]; with_reducible exact H2_) | (have H2_ := (Option.bind_some _ _).symm.trans H; with_reducible exact H2_) | with_reducible exact H | (rw [hy251]; exact H) | exact H
                                                have Ny251 := Aside0.mk hy251
                                                clear hy251
                                                replace H := Option.bind_eq_some_iff.mp H
                                                obtain ⟨⟨t254, t255⟩, A850, H⟩ := H
                                                replace H : (if ((t255 == 0) == (decide (a2 ≤ 126))) = true then (if a2 ≤ 126 then (some true) else (some (t255 == 171))) else (some false)) = some r := H
                                                have A85 := Aside0.mk A850
                                                clear A850
                                                by_cases c86 : ((t255 == 0) == (decide (a2 ≤ 126))) = true
                                                · rw [if_pos c86] at H
                                                  have c86b0 : ((t255 == 0) == (decide (a2 ≤ 126))) = true := c86
                                                  (try (have c86b1 : decide ((t255 == 0) = (decide (a2 ≤ 126))) = true := by simpa using c86))
                                                  (try (have c86b2 : ((t255 == 0) == (decide (a2 ≤ 126))) = true := by simpa using c86))
                                                  clear c86
                                                  by_cases c87 : a2 ≤ 126
                                                  · rw [if_pos c87] at H
                                                    have c87b0 : decide (a2 ≤ 126) = true := decide_eq_true c87
                                                    (try (have c86x : (t255 == 0) = true := by have h_ := c86b0; rw [c87b0] at h_; simpa using h_))
                                                    clear c87
                                                    obtain rfl := Option.some.inj H
                                                    obtain ⟨Ao88, co88, eo88⟩ := Kd.R_slice HO_7.out
                                                    subst eo88
                                                    have hcv89 := own_string (P := Try.prog) Try.underlying49 Try.underlying5 Try.underlying9 (Kd.own_of_R HO_7.out)
                                                    try go_wp2_with (first | ((with_reducible refine gate_callee (f := 12) rfl ?_); refine goesL_ (some 149) rfl rfl Try.func12 (by kernel_rfl) rfl #[.string (strOfNums x7_6), .string (⟨#[]⟩ : ByteArray)] rfl (by (try simp only [List.map_toArray, List.map_cons, List.map_nil]); first | done | rfl | (simp only [List.length_drop, List.length_take]; rfl)) ?_; (with_reducible refine (diff_Distance.calls (strOfNums x7_6) (⟨#[]⟩ : ByteArray) t247 t248 _ A76.out).mono ?_); rintro e w90 ⟨rfl, hb⟩; refine ⟨_, rfl, ?_⟩; have n0_ := Aside0.mk (Kd.R_below (by (with_reducible repeat (first | apply Kd.R_alloc | apply Kd.R_drewN | apply Kd.R_drew)); exact HO_7.out) hb); have n1_ := Aside0.mk (below_step (by repeat (first | (with_reducible first | exact HB.out | apply below_alloc | apply pw_below_drewN | apply below_drew1) | exact HB.out)) hb); clear HO_7; clear HB; have HO_7 := n0_; have HB := n1_; clear n0_ n1_; (try clear hb); (try clear hb2); (try clear hk); (try clear hi); have hcv91 := own_string (P := Try.prog) Try.underlying49 Try.underlying5 Try.underlying9 (Kd.own_of_R HO_7.out)) | ((with_reducible refine gate_callee (f := 12) rfl ?_); refine goesL_ (some 156) rfl rfl Try.func12 (by kernel_rfl) rfl #[.string (⟨#[]⟩ : ByteArray), .string ((strOfNums x7_6) ++ (⟨#[122]⟩ : ByteArray))] rfl (by (try simp only [List.map_toArray, List.map_cons, List.map_nil]); first | done | rfl | (simp only [List.length_drop, List.length_take]; rfl)) ?_; (with_reducible refine (diff_Distance.calls (⟨#[]⟩ : ByteArray) ((strOfNums x7_6) ++ (⟨#[122]⟩ : ByteArray)) t249 t250 _ A78.out).mono ?_); rintro e w92 ⟨rfl, hb⟩; refine ⟨_, rfl, ?_⟩; have n0_ := Aside0.mk (Kd.R_below (by (with_reducible repeat (first | apply Kd.R_alloc | apply Kd.R_drewN | apply Kd.R_drew)); exact HO_7.out) hb); have n1_ := Aside0.mk (below_step (by repeat (first | (with_reducible first | exact HB.out | apply below_alloc | apply pw_below_drewN | apply below_drew1) | exact HB.out)) hb); clear HO_7; clear HB; have HO_7 := n0_; have HB := n1_; clear n0_ n1_; (try clear hb); (try clear hb2); (try clear hk); (try clear hi)))
                                                    have n0_ := Aside0.mk (Kd.R_drew HO_7.out)
                                                    have n1_ := Aside0.mk (below_drew1 HB.out)
                                                    clear HO_7
                                                    clear HB
                                                    have HO_7 := n0_
                                                    have HB := n1_
                                                    clear n0_ n1_
                                                    refine start_ (n := 12) (S := fun w' => True) (ds := []) #[false, false, false, false, false, false, false, false, false, false, false, false] (by kernel_rfl) rfl rfl trivial (fun hHeld => ?_); refine with_tabW jotterlaw17_DiffApart.tab40 jotterlaw17_DiffApart.bits40 (fun HT_ HW_ => ?_)
                                                    generalize w92.drew = w93 at HO_7 HB hHeld ⊢
                                                    refine pure_ (i := 0) (N := some 172) (v := ?_) (a' := ?_) #[true, false, false, false, false, false, false, false, false, false, false, false] rfl rfl (any_of HT_.out (by kernel_rfl)) (fun _ _ _ h => h) (Or.inl ⟨by rfl, ?_⟩) ?_ ?_
                                                    rotate_left
                                                    · intro w'
                                                      go_simp
                                                      with_reducible rfl
                                                    rotate_left
                                                    · simp only [Act.put, List.setIfInBounds_toArray, List.set_cons_zero, List.set_cons_succ, i64_w, i32_w]
                                                      rfl
                                                    refine pure_ (i := 1) (N := some 173) (v := ?_) (a' := ?_) #[true, true, false, false, false, false, false, false, false, false, false, false] rfl rfl (any_of HT_.out (by kernel_rfl)) (fun _ _ _ h => h) (Or.inl ⟨by rfl, ?_⟩) ?_ ?_
                                                    rotate_left
                                                    · intro w'
                                                      go_simp
                                                      with_reducible rfl
                                                    rotate_left
                                                    · simp only [Act.put, List.setIfInBounds_toArray, List.set_cons_zero, List.set_cons_succ, i64_w, i32_w]
                                                      rfl
                                                    refine pure_ (i := 2) (N := some 174) (v := ?_) (a' := ?_) #[true, true, true, false, false, false, false, false, false, false, false, false] rfl rfl (any_of HT_.out (by kernel_rfl)) (fun _ _ _ h => h) (Or.inl ⟨by rfl, ?_⟩) ?_ ?_
                                                    rotate_left
                                                    · intro w'
                                                      go_simp
                                                      with_reducible rfl
                                                    rotate_left
                                                    · simp only [Act.put, List.setIfInBounds_toArray, List.set_cons_zero, List.set_cons_succ, i64_w, i32_w]
                                                      rfl
                                                    refine pure_ (i := 3) (N := some 175) (v := ?_) (a' := ?_) #[true, true, true, true, false, false, false, false, false, false, false, false] rfl rfl (any_of HT_.out (by kernel_rfl)) (fun _ _ _ h => h) (Or.inl ⟨by rfl, ?_⟩) ?_ ?_
                                                    rotate_left
                                                    · intro w'
                                                      go_simp
                                                      with_reducible rfl
                                                    rotate_left
                                                    · simp only [Act.put, List.setIfInBounds_toArray, List.set_cons_zero, List.set_cons_succ, i64_w, i32_w]
                                                      rfl
                                                    refine pure_ (i := 4) (N := some 176) (v := ?_) (a' := ?_) #[true, true, true, true, true, false, false, false, false, false, false, false] rfl rfl (any_of HT_.out (by kernel_rfl)) (fun _ _ _ h => h) (Or.inl ⟨by rfl, ?_⟩) ?_ ?_
                                                    rotate_left
                                                    · intro w'
                                                      go_simp
                                                      with_reducible rfl
                                                    rotate_left
                                                    · simp only [Act.put, List.setIfInBounds_toArray, List.set_cons_zero, List.set_cons_succ, i64_w, i32_w]
                                                      rfl
                                                    refine one_ (i := 5) (N := some 177) #[true, true, true, true, true, true, false, false, false, false, false, false] rfl rfl (one_of HT_.out (by kernel_rfl)) (by decide) (fun K hK => ?_)
                                                    refine Kd.R_lit_step (Kd.int .u8) _ 5 ?hg (N := 177) ?hd (xs := ([113, a2] : List Int)) (inner := [.int .u8 113, .int .u8 a2]) (ok := fun _ => True) (okp := fun _ => True) ?hr ?hp (fun _ hk => hk) trivial (Below.refl _ _) (Nat.le_refl _) (by simp) ?_; (case hd => rfl); (case hg => rfl); (case hr => first | (go_simp; done) | (go_simp; rfl)); (case hp => exact (Reps.one (show Kd.M (Kd.int .u8) _ _ _ 113 [.int .u8 113] from rfl) (Reps.one (show Kd.M (Kd.int .u8) _ _ _ a2 [.int .u8 a2] from rfl) (Reps.none _ _))))
                                                    intro v252 w94 ho95 hb hg_ hnew_
                                                    clear hg_ hnew_
                                                    (first | rw [← Ny251.out] at ho95 | (simp only [Int.reduceToNat] at ho95; rw [← Ny251.out] at ho95))
                                                    have n0_ := Aside0.mk (Kd.R_elder' (by (with_reducible repeat (first | apply Kd.R_alloc | apply Kd.R_drewN | apply Kd.R_drew)); exact HO_7.out) (Kd.R_base ho95) hb)
                                                    have n1_ := Aside0.mk (Kd.R_lower (Kd.R_new' ho95 (Kd.R_lt (by (with_reducible repeat (first | apply Kd.R_alloc | apply Kd.R_drewN | apply Kd.R_drew)); exact HO_7.out))) (below_size (by repeat (first | (with_reducible first | exact HB.out | apply below_alloc | apply pw_below_drewN | apply below_drew1) | exact HB.out))))
                                                    have n2_ := Aside0.mk (below_step (by repeat (first | (with_reducible first | exact HB.out | apply below_alloc | apply pw_below_drewN | apply below_drew1) | exact HB.out)) hb)
                                                    clear HO_7
                                                    clear HB
                                                    have HO_7 := n0_
                                                    have HO253 := n1_
                                                    have HB := n2_
                                                    clear n0_ n1_ n2_
                                                    clear hb ho95
                                                    refine hK.out _ _ trivial (fun hHeld => ?_)
                                                    clear hK K
                                                    refine norm_ (a' := ?_) ?_ ?_
                                                    rotate_left
                                                    · show Act.put _ (some 177) _ = _
                                                      simp only [Act.put, List.setIfInBounds_toArray, List.set_cons_zero, List.set_cons_succ, i64_w, i32_w]
                                                      rfl
                                                    refine one_ (i := 6) (N := some 178) #[true, true, true, true, true, true, true, false, false, false, false, false] rfl rfl (one_of HT_.out (by kernel_rfl)) (by decide) (fun K hK => ?_)
                                                    have hcv96 := own_string (P := Try.prog) Try.underlying49 Try.underlying5 Try.underlying9 (Kd.own_of_R HO253.out)
                                                    refine value_ (w1 := ?_) (v := ?_) (by rfl) rfl ?_ ?_
                                                    rotate_left 2
                                                    · go_simp
                                                      constructor
                                                      · rfl
                                                      · rfl
                                                    clear hcv96
                                                    refine hK.out _ _ trivial (fun hHeld => ?_)
                                                    clear hK K
                                                    refine norm_ (a' := ?_) ?_ ?_
                                                    rotate_left
                                                    · show Act.put _ (some 178) _ = _
                                                      simp only [Act.put, List.setIfInBounds_toArray, List.set_cons_zero, List.set_cons_succ, i64_w, i32_w]
                                                      rfl
                                                    refine one_ (i := 7) (N := some 179) #[true, true, true, true, true, true, true, true, false, false, false, false] rfl rfl (one_of HT_.out (by kernel_rfl)) (by decide) (fun K hK => ?_)
                                                    refine goes_ Try.func13 (by kernel_rfl) rfl #[.string ((strOfNums x7_1).extract 0 ((ji82) : Int).toNat), .string (strOfNums y251)] (by rfl) rfl rfl (by (try simp only [List.map_toArray, List.map_cons, List.map_nil]); first | done | (simp only [hji82]; rfl) | rfl | (simp only [List.length_drop, List.length_take]; rfl)) ?_
                                                    with_reducible refine (diff_Common.calls ((strOfNums x7_1).extract 0 ((ji82) : Int).toNat) (strOfNums y251) t254 t255 _ A85.out).mono ?_
                                                    rintro e w97 ⟨rfl, hb⟩
                                                    refine ⟨_, rfl, ?_⟩
                                                    have n0_ := Aside0.mk (Kd.R_below (by (with_reducible repeat (first | apply Kd.R_alloc | apply Kd.R_drewN | apply Kd.R_drew)); exact HO_7.out) hb)
                                                    have n1_ := Aside0.mk (Kd.R_below (by (with_reducible repeat (first | apply Kd.R_alloc | apply Kd.R_drewN | apply Kd.R_drew)); exact HO253.out) hb)
                                                    have n2_ := Aside0.mk (below_step (by repeat (first | (with_reducible first | exact HB.out | apply below_alloc | apply pw_below_drewN | apply below_drew1) | exact HB.out)) hb)
                                                    clear HO_7
                                                    clear HO253
                                                    clear HB
                                                    have HO_7 := n0_
                                                    have HO253 := n1_
                                                    have HB := n2_
                                                    clear n0_ n1_ n2_
                                                    (try clear hb)
                                                    (try clear hb2)
                                                    (try clear hk)
                                                    (try clear hi)
                                                    refine hK.out _ _ trivial (fun hHeld => ?_)
                                                    clear hK K
                                                    refine norm_ (a' := ?_) ?_ ?_
                                                    rotate_left
                                                    · show Act.put _ (some 179) _ = _
                                                      simp only [Act.put, List.setIfInBounds_toArray, List.set_cons_zero, List.set_cons_succ, i64_w, i32_w]
                                                      rfl
                                                    refine pure_ (i := 8) (N := some 171) (v := ?_) (a' := ?_) #[true, true, true, true, true, true, true, true, true, false, false, false] rfl rfl (any_of HT_.out (by kernel_rfl)) (fun _ _ _ h => h) (Or.inl ⟨by rfl, ?_⟩) ?_ ?_
                                                    rotate_left
                                                    · intro w'
                                                      go_simp
                                                      with_reducible rfl
                                                    rotate_left
                                                    · simp only [Act.put, List.setIfInBounds_toArray, List.set_cons_zero, List.set_cons_succ, i64_w, i32_w]
                                                      rfl
                                                    refine pure_ (i := 9) (N := some 180) (v := ?_) (a' := ?_) #[true, true, true, true, true, true, true, true, true, true, false, false] rfl rfl (any_of HT_.out (by kernel_rfl)) (fun _ _ _ h => h) (Or.inl ⟨by rfl, ?_⟩) ?_ ?_
                                                    rotate_left
                                                    · intro w'
                                                      go_simp
                                                      with_reducible rfl
                                                    rotate_left
                                                    · simp only [Act.put, List.setIfInBounds_toArray, List.set_cons_zero, List.set_cons_succ, i64_w, i32_w]
                                                      rfl
                                                    refine pure_ (i := 10) (N := some 181) (v := ?_) (a' := ?_) #[true, true, true, true, true, true, true, true, true, true, true, false] rfl rfl (any_of HT_.out (by kernel_rfl)) (fun _ _ _ h => h) (Or.inl ⟨by rfl, ?_⟩) ?_ ?_
                                                    rotate_left
                                                    · intro w'
                                                      go_simp
                                                      with_reducible rfl
                                                    rotate_left
                                                    · simp only [Act.put, List.setIfInBounds_toArray, List.set_cons_zero, List.set_cons_succ, i64_w, i32_w]
                                                      rfl
                                                    refine pure_ (i := 11) (N := some 18) (v := ?_) (a' := ?_) #[true, true, true, true, true, true, true, true, true, true, true, true] rfl rfl (any_of HT_.out (by kernel_rfl)) (fun _ _ _ h => h) (Or.inl ⟨by rfl, ?_⟩) ?_ ?_
                                                    rotate_left
                                                    · intro w'
                                                      go_simp
                                                      with_reducible rfl
                                                    rotate_left
                                                    · simp only [Act.put, List.setIfInBounds_toArray, List.set_cons_zero, List.set_cons_succ, i64_w, i32_w]
                                                      rfl
                                                    refine done_ (done_of HT_.out (by kernel_rfl)) ?_
                                                    try go_wp2
                                                    go_ret
                                                    exact ⟨by first | rfl | (simp [errW_none, errW_some] <;> rfl) | (simp only [← hji82]; first | rfl | (simp [errW_none, errW_some] <;> rfl)) | (simp [*, errW_none, errW_some] <;> rfl), by repeat (first | (with_reducible first | exact HB.out | apply below_alloc | apply pw_below_drewN | apply below_drew1) | exact HB.out)⟩
                                                  · rw [if_neg c87] at H
                                                    have c87b0 : decide (a2 ≤ 126) = false := decide_eq_false c87
                                                    (try (have c86x : (t255 == 0) = false := by have h_ := c86b0; rw [c87b0] at h_; simpa using h_))
                                                    clear c87
                                                    obtain rfl := Option.some.inj H
                                                    obtain ⟨Ao98, co98, eo98⟩ := Kd.R_slice HO_7.out
                                                    subst eo98
                                                    have hcv99 := own_string (P := Try.prog) Try.underlying49 Try.underlying5 Try.underlying9 (Kd.own_of_R HO_7.out)
                                                    try go_wp2_with (first | ((with_reducible refine gate_callee (f := 12) rfl ?_); refine goesL_ (some 149) rfl rfl Try.func12 (by kernel_rfl) rfl #[.string (strOfNums x7_6), .string (⟨#[]⟩ : ByteArray)] rfl (by (try simp only [List.map_toArray, List.map_cons, List.map_nil]); first | done | rfl | (simp only [List.length_drop, List.length_take]; rfl)) ?_; (with_reducible refine (diff_Distance.calls (strOfNums x7_6) (⟨#[]⟩ : ByteArray) t247 t248 _ A76.out).mono ?_); rintro e w100 ⟨rfl, hb⟩; refine ⟨_, rfl, ?_⟩; have n0_ := Aside0.mk (Kd.R_below (by (with_reducible repeat (first | apply Kd.R_alloc | apply Kd.R_drewN | apply Kd.R_drew)); exact HO_7.out) hb); have n1_ := Aside0.mk (below_step (by repeat (first | (with_reducible first | exact HB.out | apply below_alloc | apply pw_below_drewN | apply below_drew1) | exact HB.out)) hb); clear HO_7; clear HB; have HO_7 := n0_; have HB := n1_; clear n0_ n1_; (try clear hb); (try clear hb2); (try clear hk); (try clear hi); have hcv101 := own_string (P := Try.prog) Try.underlying49 Try.underlying5 Try.underlying9 (Kd.own_of_R HO_7.out)) | ((with_reducible refine gate_callee (f := 12) rfl ?_); refine goesL_ (some 156) rfl rfl Try.func12 (by kernel_rfl) rfl #[.string (⟨#[]⟩ : ByteArray), .string ((strOfNums x7_6) ++ (⟨#[122]⟩ : ByteArray))] rfl (by (try simp only [List.map_toArray, List.map_cons, List.map_nil]); first | done | rfl | (simp only [List.length_drop, List.length_take]; rfl)) ?_; (with_reducible refine (diff_Distance.calls (⟨#[]⟩ : ByteArray) ((strOfNums x7_6) ++ (⟨#[122]⟩ : ByteArray)) t249 t250 _ A78.out).mono ?_); rintro e w102 ⟨rfl, hb⟩; refine ⟨_, rfl, ?_⟩; have n0_ := Aside0.mk (Kd.R_below (by (with_reducible repeat (first | apply Kd.R_alloc | apply Kd.R_drewN | apply Kd.R_drew)); exact HO_7.out) hb); have n1_ := Aside0.mk (below_step (by repeat (first | (with_reducible first | exact HB.out | apply below_alloc | apply pw_below_drewN | apply below_drew1) | exact HB.out)) hb); clear HO_7; clear HB; have HO_7 := n0_; have HB := n1_; clear n0_ n1_; (try clear hb); (try clear hb2); (try clear hk); (try clear hi)))
                                                    have n0_ := Aside0.mk (Kd.R_drew HO_7.out)
                                                    have n1_ := Aside0.mk (below_drew1 HB.out)
                                                    clear HO_7
                                                    clear HB
                                                    have HO_7 := n0_
                                                    have HB := n1_
                                                    clear n0_ n1_
                                                    refine start_ (n := 12) (S := fun w' => True) (ds := []) #[false, false, false, false, false, false, false, false, false, false, false, false] (by kernel_rfl) rfl rfl trivial (fun hHeld => ?_); refine with_tabW jotterlaw17_DiffApart.tab40 jotterlaw17_DiffApart.bits40 (fun HT_ HW_ => ?_)
                                                    generalize w102.drew = w103 at HO_7 HB hHeld ⊢
                                                    refine pure_ (i := 0) (N := some 172) (v := ?_) (a' := ?_) #[true, false, false, false, false, false, false, false, false, false, false, false] rfl rfl (any_of HT_.out (by kernel_rfl)) (fun _ _ _ h => h) (Or.inl ⟨by rfl, ?_⟩) ?_ ?_
                                                    rotate_left
                                                    · intro w'
                                                      go_simp
                                                      with_reducible rfl
                                                    rotate_left
                                                    · simp only [Act.put, List.setIfInBounds_toArray, List.set_cons_zero, List.set_cons_succ, i64_w, i32_w]
                                                      rfl
                                                    refine pure_ (i := 1) (N := some 173) (v := ?_) (a' := ?_) #[true, true, false, false, false, false, false, false, false, false, false, false] rfl rfl (any_of HT_.out (by kernel_rfl)) (fun _ _ _ h => h) (Or.inl ⟨by rfl, ?_⟩) ?_ ?_
                                                    rotate_left
                                                    · intro w'
                                                      go_simp
                                                      with_reducible rfl
                                                    rotate_left
                                                    · simp only [Act.put, List.setIfInBounds_toArray, List.set_cons_zero, List.set_cons_succ, i64_w, i32_w]
                                                      rfl
                                                    refine pure_ (i := 2) (N := some 174) (v := ?_) (a' := ?_) #[true, true, true, false, false, false, false, false, false, false, false, false] rfl rfl (any_of HT_.out (by kernel_rfl)) (fun _ _ _ h => h) (Or.inl ⟨by rfl, ?_⟩) ?_ ?_
                                                    rotate_left
                                                    · intro w'
                                                      go_simp
                                                      with_reducible rfl
                                                    rotate_left
                                                    · simp only [Act.put, List.setIfInBounds_toArray, List.set_cons_zero, List.set_cons_succ, i64_w, i32_w]
                                                      rfl
                                                    refine pure_ (i := 3) (N := some 175) (v := ?_) (a' := ?_) #[true, true, true, true, false, false, false, false, false, false, false, false] rfl rfl (any_of HT_.out (by kernel_rfl)) (fun _ _ _ h => h) (Or.inl ⟨by rfl, ?_⟩) ?_ ?_
                                                    rotate_left
                                                    · intro w'
                                                      go_simp
                                                      with_reducible rfl
                                                    rotate_left
                                                    · simp only [Act.put, List.setIfInBounds_toArray, List.set_cons_zero, List.set_cons_succ, i64_w, i32_w]
                                                      rfl
                                                    refine pure_ (i := 4) (N := some 176) (v := ?_) (a' := ?_) #[true, true, true, true, true, false, false, false, false, false, false, false] rfl rfl (any_of HT_.out (by kernel_rfl)) (fun _ _ _ h => h) (Or.inl ⟨by rfl, ?_⟩) ?_ ?_
                                                    rotate_left
                                                    · intro w'
                                                      go_simp
                                                      with_reducible rfl
                                                    rotate_left
                                                    · simp only [Act.put, List.setIfInBounds_toArray, List.set_cons_zero, List.set_cons_succ, i64_w, i32_w]
                                                      rfl
                                                    refine one_ (i := 5) (N := some 177) #[true, true, true, true, true, true, false, false, false, false, false, false] rfl rfl (one_of HT_.out (by kernel_rfl)) (by decide) (fun K hK => ?_)
                                                    refine Kd.R_lit_step (Kd.int .u8) _ 5 ?hg (N := 177) ?hd (xs := ([113, a2] : List Int)) (inner := [.int .u8 113, .int .u8 a2]) (ok := fun _ => True) (okp := fun _ => True) ?hr ?hp (fun _ hk => hk) trivial (Below.refl _ _) (Nat.le_refl _) (by simp) ?_; (case hd => rfl); (case hg => rfl); (case hr => first | (go_simp; done) | (go_simp; rfl)); (case hp => exact (Reps.one (show Kd.M (Kd.int .u8) _ _ _ 113 [.int .u8 113] from rfl) (Reps.one (show Kd.M (Kd.int .u8) _ _ _ a2 [.int .u8 a2] from rfl) (Reps.none _ _))))
                                                    intro v252 w104 ho105 hb hg_ hnew_
                                                    clear hg_ hnew_
                                                    (first | rw [← Ny251.out] at ho105 | (simp only [Int.reduceToNat] at ho105; rw [← Ny251.out] at ho105))
                                                    have n0_ := Aside0.mk (Kd.R_elder' (by (with_reducible repeat (first | apply Kd.R_alloc | apply Kd.R_drewN | apply Kd.R_drew)); exact HO_7.out) (Kd.R_base ho105) hb)
                                                    have n1_ := Aside0.mk (Kd.R_lower (Kd.R_new' ho105 (Kd.R_lt (by (with_reducible repeat (first | apply Kd.R_alloc | apply Kd.R_drewN | apply Kd.R_drew)); exact HO_7.out))) (below_size (by repeat (first | (with_reducible first | exact HB.out | apply below_alloc | apply pw_below_drewN | apply below_drew1) | exact HB.out))))
                                                    have n2_ := Aside0.mk (below_step (by repeat (first | (with_reducible first | exact HB.out | apply below_alloc | apply pw_below_drewN | apply below_drew1) | exact HB.out)) hb)
                                                    clear HO_7
                                                    clear HB
                                                    have HO_7 := n0_
                                                    have HO253 := n1_
                                                    have HB := n2_
                                                    clear n0_ n1_ n2_
                                                    clear hb ho105
                                                    refine hK.out _ _ trivial (fun hHeld => ?_)
                                                    clear hK K
                                                    refine norm_ (a' := ?_) ?_ ?_
                                                    rotate_left
                                                    · show Act.put _ (some 177) _ = _
                                                      simp only [Act.put, List.setIfInBounds_toArray, List.set_cons_zero, List.set_cons_succ, i64_w, i32_w]
                                                      rfl
                                                    refine one_ (i := 6) (N := some 178) #[true, true, true, true, true, true, true, false, false, false, false, false] rfl rfl (one_of HT_.out (by kernel_rfl)) (by decide) (fun K hK => ?_)
                                                    have hcv106 := own_string (P := Try.prog) Try.underlying49 Try.underlying5 Try.underlying9 (Kd.own_of_R HO253.out)
                                                    refine value_ (w1 := ?_) (v := ?_) (by rfl) rfl ?_ ?_
                                                    rotate_left 2
                                                    · go_simp
                                                      constructor
                                                      · rfl
                                                      · rfl
                                                    clear hcv106
                                                    refine hK.out _ _ trivial (fun hHeld => ?_)
                                                    clear hK K
                                                    refine norm_ (a' := ?_) ?_ ?_
                                                    rotate_left
                                                    · show Act.put _ (some 178) _ = _
                                                      simp only [Act.put, List.setIfInBounds_toArray, List.set_cons_zero, List.set_cons_succ, i64_w, i32_w]
                                                      rfl
                                                    refine one_ (i := 7) (N := some 179) #[true, true, true, true, true, true, true, true, false, false, false, false] rfl rfl (one_of HT_.out (by kernel_rfl)) (by decide) (fun K hK => ?_)
                                                    refine goes_ Try.func13 (by kernel_rfl) rfl #[.string ((strOfNums x7_1).extract 0 ((ji82) : Int).toNat), .string (strOfNums y251)] (by rfl) rfl rfl (by (try simp only [List.map_toArray, List.map_cons, List.map_nil]); first | done | (simp only [hji82]; rfl) | rfl | (simp only [List.length_drop, List.length_take]; rfl)) ?_
                                                    with_reducible refine (diff_Common.calls ((strOfNums x7_1).extract 0 ((ji82) : Int).toNat) (strOfNums y251) t254 t255 _ A85.out).mono ?_
                                                    rintro e w107 ⟨rfl, hb⟩
                                                    refine ⟨_, rfl, ?_⟩
                                                    have n0_ := Aside0.mk (Kd.R_below (by (with_reducible repeat (first | apply Kd.R_alloc | apply Kd.R_drewN | apply Kd.R_drew)); exact HO_7.out) hb)
                                                    have n1_ := Aside0.mk (Kd.R_below (by (with_reducible repeat (first | apply Kd.R_alloc | apply Kd.R_drewN | apply Kd.R_drew)); exact HO253.out) hb)
                                                    have n2_ := Aside0.mk (below_step (by repeat (first | (with_reducible first | exact HB.out | apply below_alloc | apply pw_below_drewN | apply below_drew1) | exact HB.out)) hb)
                                                    clear HO_7
                                                    clear HO253
                                                    clear HB
                                                    have HO_7 := n0_
                                                    have HO253 := n1_
                                                    have HB := n2_
                                                    clear n0_ n1_ n2_
                                                    (try clear hb)
                                                    (try clear hb2)
                                                    (try clear hk)
                                                    (try clear hi)
                                                    refine hK.out _ _ trivial (fun hHeld => ?_)
                                                    clear hK K
                                                    refine norm_ (a' := ?_) ?_ ?_
                                                    rotate_left
                                                    · show Act.put _ (some 179) _ = _
                                                      simp only [Act.put, List.setIfInBounds_toArray, List.set_cons_zero, List.set_cons_succ, i64_w, i32_w]
                                                      rfl
                                                    refine pure_ (i := 8) (N := some 171) (v := ?_) (a' := ?_) #[true, true, true, true, true, true, true, true, true, false, false, false] rfl rfl (any_of HT_.out (by kernel_rfl)) (fun _ _ _ h => h) (Or.inl ⟨by rfl, ?_⟩) ?_ ?_
                                                    rotate_left
                                                    · intro w'
                                                      go_simp
                                                      with_reducible rfl
                                                    rotate_left
                                                    · simp only [Act.put, List.setIfInBounds_toArray, List.set_cons_zero, List.set_cons_succ, i64_w, i32_w]
                                                      rfl
                                                    refine pure_ (i := 9) (N := some 180) (v := ?_) (a' := ?_) #[true, true, true, true, true, true, true, true, true, true, false, false] rfl rfl (any_of HT_.out (by kernel_rfl)) (fun _ _ _ h => h) (Or.inl ⟨by rfl, ?_⟩) ?_ ?_
                                                    rotate_left
                                                    · intro w'
                                                      go_simp
                                                      with_reducible rfl
                                                    rotate_left
                                                    · simp only [Act.put, List.setIfInBounds_toArray, List.set_cons_zero, List.set_cons_succ, i64_w, i32_w]
                                                      rfl
                                                    refine pure_ (i := 10) (N := some 181) (v := ?_) (a' := ?_) #[true, true, true, true, true, true, true, true, true, true, true, false] rfl rfl (any_of HT_.out (by kernel_rfl)) (fun _ _ _ h => h) (Or.inl ⟨by rfl, ?_⟩) ?_ ?_
                                                    rotate_left
                                                    · intro w'
                                                      go_simp
                                                      with_reducible rfl
                                                    rotate_left
                                                    · simp only [Act.put, List.setIfInBounds_toArray, List.set_cons_zero, List.set_cons_succ, i64_w, i32_w]
                                                      rfl
                                                    refine pure_ (i := 11) (N := some 18) (v := ?_) (a' := ?_) #[true, true, true, true, true, true, true, true, true, true, true, true] rfl rfl (any_of HT_.out (by kernel_rfl)) (fun _ _ _ h => h) (Or.inl ⟨by rfl, ?_⟩) ?_ ?_
                                                    rotate_left
                                                    · intro w'
                                                      go_simp
                                                      with_reducible rfl
                                                    rotate_left
                                                    · simp only [Act.put, List.setIfInBounds_toArray, List.set_cons_zero, List.set_cons_succ, i64_w, i32_w]
                                                      rfl
                                                    refine done_ (done_of HT_.out (by kernel_rfl)) ?_
                                                    try go_wp2
                                                    go_ret
                                                    exact ⟨by first | rfl | (simp [errW_none, errW_some] <;> rfl) | (simp only [← hji82]; first | rfl | (simp [errW_none, errW_some] <;> rfl)) | (simp [*, errW_none, errW_some] <;> rfl), by repeat (first | (with_reducible first | exact HB.out | apply below_alloc | apply pw_below_drewN | apply below_drew1) | exact HB.out)⟩
                                                · rw [if_neg c86] at H
                                                  have c86b0 : ((t255 == 0) == (decide (a2 ≤ 126))) = false := by simpa using c86
                                                  (try (have c86b1 : decide ((t255 == 0) = (decide (a2 ≤ 126))) = false := by simpa using c86))
                                                  (try (have c86b2 : ((t255 == 0) == (decide (a2 ≤ 126))) = false := by simpa using c86))
                                                  (try (have c86b3 : ¬ ((t255 == 0) = (decide (a2 ≤ 126))) := by simpa using c86))
                                                  clear c86
                                                  obtain rfl := Option.some.inj H
                                                  obtain ⟨Ao108, co108, eo108⟩ := Kd.R_slice HO_7.out
                                                  subst eo108
                                                  have hcv109 := own_string (P := Try.prog) Try.underlying49 Try.underlying5 Try.underlying9 (Kd.own_of_R HO_7.out)
                                                  try go_wp2_with (first | ((with_reducible refine gate_callee (f := 12) rfl ?_); refine goesL_ (some 149) rfl rfl Try.func12 (by kernel_rfl) rfl #[.string (strOfNums x7_6), .string (⟨#[]⟩ : ByteArray)] rfl (by (try simp only [List.map_toArray, List.map_cons, List.map_nil]); first | done | rfl | (simp only [List.length_drop, List.length_take]; rfl)) ?_; (with_reducible refine (diff_Distance.calls (strOfNums x7_6) (⟨#[]⟩ : ByteArray) t247 t248 _ A76.out).mono ?_); rintro e w110 ⟨rfl, hb⟩; refine ⟨_, rfl, ?_⟩; have n0_ := Aside0.mk (Kd.R_below (by (with_reducible repeat (first | apply Kd.R_alloc | apply Kd.R_drewN | apply Kd.R_drew)); exact HO_7.out) hb); have n1_ := Aside0.mk (below_step (by repeat (first | (with_reducible first | exact HB.out | apply below_alloc | apply pw_below_drewN | apply below_drew1) | exact HB.out)) hb); clear HO_7; clear HB; have HO_7 := n0_; have HB := n1_; clear n0_ n1_; (try clear hb); (try clear hb2); (try clear hk); (try clear hi); have hcv111 := own_string (P := Try.prog) Try.underlying49 Try.underlying5 Try.underlying9 (Kd.own_of_R HO_7.out)) | ((with_reducible refine gate_callee (f := 12) rfl ?_); refine goesL_ (some 156) rfl rfl Try.func12 (by kernel_rfl) rfl #[.string (⟨#[]⟩ : ByteArray), .string ((strOfNums x7_6) ++ (⟨#[122]⟩ : ByteArray))] rfl (by (try simp only [List.map_toArray, List.map_cons, List.map_nil]); first | done | rfl | (simp only [List.length_drop, List.length_take]; rfl)) ?_; (with_reducible refine (diff_Distance.calls (⟨#[]⟩ : ByteArray) ((strOfNums x7_6) ++ (⟨#[122]⟩ : ByteArray)) t249 t250 _ A78.out).mono ?_); rintro e w112 ⟨rfl, hb⟩; refine ⟨_, rfl, ?_⟩; have n0_ := Aside0.mk (Kd.R_below (by (with_reducible repeat (first | apply Kd.R_alloc | apply Kd.R_drewN | apply Kd.R_drew)); exact HO_7.out) hb); have n1_ := Aside0.mk (below_step (by repeat (first | (with_reducible first | exact HB.out | apply below_alloc | apply pw_below_drewN | apply below_drew1) | exact HB.out)) hb); clear HO_7; clear HB; have HO_7 := n0_; have HB := n1_; clear n0_ n1_; (try clear hb); (try clear hb2); (try clear hk); (try clear hi)))
                                                  have n0_ := Aside0.mk (Kd.R_drew HO_7.out)
                                                  have n1_ := Aside0.mk (below_drew1 HB.out)
                                                  clear HO_7
                                                  clear HB
                                                  have HO_7 := n0_
                                                  have HB := n1_
                                                  clear n0_ n1_
                                                  refine start_ (n := 12) (S := fun w' => True) (ds := []) #[false, false, false, false, false, false, false, false, false, false, false, false] (by kernel_rfl) rfl rfl trivial (fun hHeld => ?_); refine with_tabW jotterlaw17_DiffApart.tab40 jotterlaw17_DiffApart.bits40 (fun HT_ HW_ => ?_)
                                                  generalize w112.drew = w113 at HO_7 HB hHeld ⊢
                                                  refine pure_ (i := 0) (N := some 172) (v := ?_) (a' := ?_) #[true, false, false, false, false, false, false, false, false, false, false, false] rfl rfl (any_of HT_.out (by kernel_rfl)) (fun _ _ _ h => h) (Or.inl ⟨by rfl, ?_⟩) ?_ ?_
                                                  rotate_left
                                                  · intro w'
                                                    go_simp
                                                    with_reducible rfl
                                                  rotate_left
                                                  · simp only [Act.put, List.setIfInBounds_toArray, List.set_cons_zero, List.set_cons_succ, i64_w, i32_w]
                                                    rfl
                                                  refine pure_ (i := 1) (N := some 173) (v := ?_) (a' := ?_) #[true, true, false, false, false, false, false, false, false, false, false, false] rfl rfl (any_of HT_.out (by kernel_rfl)) (fun _ _ _ h => h) (Or.inl ⟨by rfl, ?_⟩) ?_ ?_
                                                  rotate_left
                                                  · intro w'
                                                    go_simp
                                                    with_reducible rfl
                                                  rotate_left
                                                  · simp only [Act.put, List.setIfInBounds_toArray, List.set_cons_zero, List.set_cons_succ, i64_w, i32_w]
                                                    rfl
                                                  refine pure_ (i := 2) (N := some 174) (v := ?_) (a' := ?_) #[true, true, true, false, false, false, false, false, false, false, false, false] rfl rfl (any_of HT_.out (by kernel_rfl)) (fun _ _ _ h => h) (Or.inl ⟨by rfl, ?_⟩) ?_ ?_
                                                  rotate_left
                                                  · intro w'
                                                    go_simp
                                                    with_reducible rfl
                                                  rotate_left
                                                  · simp only [Act.put, List.setIfInBounds_toArray, List.set_cons_zero, List.set_cons_succ, i64_w, i32_w]
                                                    rfl
                                                  refine pure_ (i := 3) (N := some 175) (v := ?_) (a' := ?_) #[true, true, true, true, false, false, false, false, false, false, false, false] rfl rfl (any_of HT_.out (by kernel_rfl)) (fun _ _ _ h => h) (Or.inl ⟨by rfl, ?_⟩) ?_ ?_
                                                  rotate_left
                                                  · intro w'
                                                    go_simp
                                                    with_reducible rfl
                                                  rotate_left
                                                  · simp only [Act.put, List.setIfInBounds_toArray, List.set_cons_zero, List.set_cons_succ, i64_w, i32_w]
                                                    rfl
                                                  refine pure_ (i := 4) (N := some 176) (v := ?_) (a' := ?_) #[true, true, true, true, true, false, false, false, false, false, false, false] rfl rfl (any_of HT_.out (by kernel_rfl)) (fun _ _ _ h => h) (Or.inl ⟨by rfl, ?_⟩) ?_ ?_
                                                  rotate_left
                                                  · intro w'
                                                    go_simp
                                                    with_reducible rfl
                                                  rotate_left
                                                  · simp only [Act.put, List.setIfInBounds_toArray, List.set_cons_zero, List.set_cons_succ, i64_w, i32_w]
                                                    rfl
                                                  refine one_ (i := 5) (N := some 177) #[true, true, true, true, true, true, false, false, false, false, false, false] rfl rfl (one_of HT_.out (by kernel_rfl)) (by decide) (fun K hK => ?_)
                                                  refine Kd.R_lit_step (Kd.int .u8) _ 5 ?hg (N := 177) ?hd (xs := ([113, a2] : List Int)) (inner := [.int .u8 113, .int .u8 a2]) (ok := fun _ => True) (okp := fun _ => True) ?hr ?hp (fun _ hk => hk) trivial (Below.refl _ _) (Nat.le_refl _) (by simp) ?_; (case hd => rfl); (case hg => rfl); (case hr => first | (go_simp; done) | (go_simp; rfl)); (case hp => exact (Reps.one (show Kd.M (Kd.int .u8) _ _ _ 113 [.int .u8 113] from rfl) (Reps.one (show Kd.M (Kd.int .u8) _ _ _ a2 [.int .u8 a2] from rfl) (Reps.none _ _))))
                                                  intro v252 w114 ho115 hb hg_ hnew_
                                                  clear hg_ hnew_
                                                  (first | rw [← Ny251.out] at ho115 | (simp only [Int.reduceToNat] at ho115; rw [← Ny251.out] at ho115))
                                                  have n0_ := Aside0.mk (Kd.R_elder' (by (with_reducible repeat (first | apply Kd.R_alloc | apply Kd.R_drewN | apply Kd.R_drew)); exact HO_7.out) (Kd.R_base ho115) hb)
                                                  have n1_ := Aside0.mk (Kd.R_lower (Kd.R_new' ho115 (Kd.R_lt (by (with_reducible repeat (first | apply Kd.R_alloc | apply Kd.R_drewN | apply Kd.R_drew)); exact HO_7.out))) (below_size (by repeat (first | (with_reducible first | exact HB.out | apply below_alloc | apply pw_below_drewN | apply below_drew1) | exact HB.out))))
                                                  have n2_ := Aside0.mk (below_step (by repeat (first | (with_reducible first | exact HB.out | apply below_alloc | apply pw_below_drewN | apply below_drew1) | exact HB.out)) hb)
                                                  clear HO_7
                                                  clear HB
                                                  have HO_7 := n0_
                                                  have HO253 := n1_
                                                  have HB := n2_
                                                  clear n0_ n1_ n2_
                                                  clear hb ho115
                                                  refine hK.out _ _ trivial (fun hHeld => ?_)
                                                  clear hK K
                                                  refine norm_ (a' := ?_) ?_ ?_
                                                  rotate_left
                                                  · show Act.put _ (some 177) _ = _
                                                    simp only [Act.put, List.setIfInBounds_toArray, List.set_cons_zero, List.set_cons_succ, i64_w, i32_w]
                                                    rfl
                                                  refine one_ (i := 6) (N := some 178) #[true, true, true, true, true, true, true, false, false, false, false, false] rfl rfl (one_of HT_.out (by kernel_rfl)) (by decide) (fun K hK => ?_)
                                                  have hcv116 := own_string (P := Try.prog) Try.underlying49 Try.underlying5 Try.underlying9 (Kd.own_of_R HO253.out)
                                                  refine value_ (w1 := ?_) (v := ?_) (by rfl) rfl ?_ ?_
                                                  rotate_left 2
                                                  · go_simp
                                                    constructor
                                                    · rfl
                                                    · rfl
                                                  clear hcv116
                                                  refine hK.out _ _ trivial (fun hHeld => ?_)
                                                  clear hK K
                                                  refine norm_ (a' := ?_) ?_ ?_
                                                  rotate_left
                                                  · show Act.put _ (some 178) _ = _
                                                    simp only [Act.put, List.setIfInBounds_toArray, List.set_cons_zero, List.set_cons_succ, i64_w, i32_w]
                                                    rfl
                                                  refine one_ (i := 7) (N := some 179) #[true, true, true, true, true, true, true, true, false, false, false, false] rfl rfl (one_of HT_.out (by kernel_rfl)) (by decide) (fun K hK => ?_)
                                                  refine goes_ Try.func13 (by kernel_rfl) rfl #[.string ((strOfNums x7_1).extract 0 ((ji82) : Int).toNat), .string (strOfNums y251)] (by rfl) rfl rfl (by (try simp only [List.map_toArray, List.map_cons, List.map_nil]); first | done | (simp only [hji82]; rfl) | rfl | (simp only [List.length_drop, List.length_take]; rfl)) ?_
                                                  with_reducible refine (diff_Common.calls ((strOfNums x7_1).extract 0 ((ji82) : Int).toNat) (strOfNums y251) t254 t255 _ A85.out).mono ?_
                                                  rintro e w117 ⟨rfl, hb⟩
                                                  refine ⟨_, rfl, ?_⟩
                                                  have n0_ := Aside0.mk (Kd.R_below (by (with_reducible repeat (first | apply Kd.R_alloc | apply Kd.R_drewN | apply Kd.R_drew)); exact HO_7.out) hb)
                                                  have n1_ := Aside0.mk (Kd.R_below (by (with_reducible repeat (first | apply Kd.R_alloc | apply Kd.R_drewN | apply Kd.R_drew)); exact HO253.out) hb)
                                                  have n2_ := Aside0.mk (below_step (by repeat (first | (with_reducible first | exact HB.out | apply below_alloc | apply pw_below_drewN | apply below_drew1) | exact HB.out)) hb)
                                                  clear HO_7
                                                  clear HO253
                                                  clear HB
                                                  have HO_7 := n0_
                                                  have HO253 := n1_
                                                  have HB := n2_
                                                  clear n0_ n1_ n2_
                                                  (try clear hb)
                                                  (try clear hb2)
                                                  (try clear hk)
                                                  (try clear hi)
                                                  refine hK.out _ _ trivial (fun hHeld => ?_)
                                                  clear hK K
                                                  refine norm_ (a' := ?_) ?_ ?_
                                                  rotate_left
                                                  · show Act.put _ (some 179) _ = _
                                                    simp only [Act.put, List.setIfInBounds_toArray, List.set_cons_zero, List.set_cons_succ, i64_w, i32_w]
                                                    rfl
                                                  refine pure_ (i := 8) (N := some 171) (v := ?_) (a' := ?_) #[true, true, true, true, true, true, true, true, true, false, false, false] rfl rfl (any_of HT_.out (by kernel_rfl)) (fun _ _ _ h => h) (Or.inl ⟨by rfl, ?_⟩) ?_ ?_
                                                  rotate_left
                                                  · intro w'
                                                    go_simp
                                                    with_reducible rfl
                                                  rotate_left
                                                  · simp only [Act.put, List.setIfInBounds_toArray, List.set_cons_zero, List.set_cons_succ, i64_w, i32_w]
                                                    rfl
                                                  refine pure_ (i := 9) (N := some 180) (v := ?_) (a' := ?_) #[true, true, true, true, true, true, true, true, true, true, false, false] rfl rfl (any_of HT_.out (by kernel_rfl)) (fun _ _ _ h => h) (Or.inl ⟨by rfl, ?_⟩) ?_ ?_
                                                  rotate_left
                                                  · intro w'
                                                    go_simp
                                                    with_reducible rfl
                                                  rotate_left
                                                  · simp only [Act.put, List.setIfInBounds_toArray, List.set_cons_zero, List.set_cons_succ, i64_w, i32_w]
                                                    rfl
                                                  refine pure_ (i := 10) (N := some 181) (v := ?_) (a' := ?_) #[true, true, true, true, true, true, true, true, true, true, true, false] rfl rfl (any_of HT_.out (by kernel_rfl)) (fun _ _ _ h => h) (Or.inl ⟨by rfl, ?_⟩) ?_ ?_
                                                  rotate_left
                                                  · intro w'
                                                    go_simp
                                                    with_reducible rfl
                                                  rotate_left
                                                  · simp only [Act.put, List.setIfInBounds_toArray, List.set_cons_zero, List.set_cons_succ, i64_w, i32_w]
                                                    rfl
                                                  refine pure_ (i := 11) (N := some 18) (v := ?_) (a' := ?_) #[true, true, true, true, true, true, true, true, true, true, true, true] rfl rfl (any_of HT_.out (by kernel_rfl)) (fun _ _ _ h => h) (Or.inl ⟨by rfl, ?_⟩) ?_ ?_
                                                  rotate_left
                                                  · intro w'
                                                    go_simp
                                                    with_reducible rfl
                                                  rotate_left
                                                  · simp only [Act.put, List.setIfInBounds_toArray, List.set_cons_zero, List.set_cons_succ, i64_w, i32_w]
                                                    rfl
                                                  refine done_ (done_of HT_.out (by kernel_rfl)) ?_
                                                  try go_wp2
                                                  go_ret
                                                  exact ⟨by first | rfl | (simp [errW_none, errW_some] <;> rfl) | (simp only [← hji82]; first | rfl | (simp [errW_none, errW_some] <;> rfl)) | (simp [*, errW_none, errW_some] <;> rfl), by repeat (first | (with_reducible first | exact HB.out | apply below_alloc | apply pw_below_drewN | apply below_drew1) | exact HB.out)⟩
                                              · rw [if_neg c84] at H
                                                exact absurd H (by simp)
                                            · rw [if_neg c83] at H
                                              exact absurd H (by simp)
                                          · rw [if_neg c81] at H
                                            have c81b0 : decide (32 ≤ a2) = false := decide_eq_false c81
                                            clear c81
                                            obtain ⟨ji118, hji118⟩ : ∃ j_ : Int, (wrap64 (Int.tdiv t223 2)) = j_ := ⟨_, rfl⟩
                                            replace H : (if 0 ≤ (ji118) then (if (ji118) ≤ ((strOfNums x7_1).size : Int) then ((diff_Common.f ((strOfNums x7_1).extract 0 ((ji118) : Int).toNat) (strOfNums (([113, a2] : List Int)))).bind fun bt259 => (if ((bt259.2 == 0) == false) = true then (some (bt259.2 == 171)) else (some false))) else (none)) else (none)) = some r := by first | (rw [hji118] at H; exact H) | (simp only [hji118] at H ⊢; exact H)
                                            (try rw [hji118] at A76)
                                            (try rw [hji118] at A78)
                                            have hji118w : (IntKind.i64.wrap (Int.tdiv t223 2)) = ji118 := (i64_w _).trans hji118
                                            by_cases c119 : 0 ≤ (ji118)
                                            · rw [if_pos c119] at H
                                              have c119b0 := eq_true c119
                                              have c119b1 : decide (0 ≤ (ji118)) = true := decide_eq_true c119
                                              clear c119
                                              by_cases c120 : (ji118) ≤ ((strOfNums x7_1).size : Int)
                                              · rw [if_pos c120] at H
                                                have c120b0 := eq_true c120
                                                have c120b1 : decide ((ji118) ≤ ((strOfNums x7_1).size : Int)) = true := decide_eq_true c120
                                                clear c120
                                                obtain ⟨y256, hy256⟩ : ∃ y_ : List Int, y_ = (([113, a2] : List Int)) := ⟨_, rfl⟩
                                                replace H : ((diff_Common.f ((strOfNums x7_1).extract 0 ((ji118) : Int).toNat) (strOfNums y256)).bind fun bt259 => (if ((bt259.2 == 0) == false) = true then (some (bt259.2 == 171)) else (some false))) = some r := by first | (rw [hy256]; with_reducible exact H) | (have H2_ := (Option.bind_some _ _).symm.trans H; rw [hy256]; with_reducible exact H2_) | (have H2_ := (Option.bind_some _ _).symm.trans H; with_reducible exact H2_) | with_reducible exact H | (rw [hy256]; exact H) | exact H
                                                have Ny256 := Aside0.mk hy256
                                                clear hy256
                                                replace H := Option.bind_eq_some_iff.mp H
                                                obtain ⟨⟨t259, t260⟩, A1210, H⟩ := H
                                                replace H : (if ((t260 == 0) == false) = true then (some (t260 == 171)) else (some false)) = some r := H
                                                have A121 := Aside0.mk A1210
                                                clear A1210
                                                by_cases c122 : ((t260 == 0) == false) = true
                                                · rw [if_pos c122] at H
                                                  have c122b0 : ((t260 == 0) == false) = true := c122
                                                  (try (have c122b1 : decide ((t260 == 0) = false) = true := by simpa using c122))
                                                  (try (have c122b2 : ((t260 == 0) == false) = true := by simpa using c122))
                                                  clear c122
                                                  obtain rfl := Option.some.inj H
                                                  obtain ⟨Ao123, co123, eo123⟩ := Kd.R_slice HO_7.out
                                                  subst eo123
                                                  have hcv124 := own_string (P := Try.prog) Try.underlying49 Try.underlying5 Try.underlying9 (Kd.own_of_R HO_7.out)
                                                  try go_wp2_with (first | ((with_reducible refine gate_callee (f := 12) rfl ?_); refine goesL_ (some 149) rfl rfl Try.func12 (by kernel_rfl) rfl #[.string (strOfNums x7_6), .string (⟨#[]⟩ : ByteArray)] rfl (by (try simp only [List.map_toArray, List.map_cons, List.map_nil]); first | done | rfl | (simp only [List.length_drop, List.length_take]; rfl)) ?_; (with_reducible refine (diff_Distance.calls (strOfNums x7_6) (⟨#[]⟩ : ByteArray) t247 t248 _ A76.out).mono ?_); rintro e w125 ⟨rfl, hb⟩; refine ⟨_, rfl, ?_⟩; have n0_ := Aside0.mk (Kd.R_below (by (with_reducible repeat (first | apply Kd.R_alloc | apply Kd.R_drewN | apply Kd.R_drew)); exact HO_7.out) hb); have n1_ := Aside0.mk (below_step (by repeat (first | (with_reducible first | exact HB.out | apply below_alloc | apply pw_below_drewN | apply below_drew1) | exact HB.out)) hb); clear HO_7; clear HB; have HO_7 := n0_; have HB := n1_; clear n0_ n1_; (try clear hb); (try clear hb2); (try clear hk); (try clear hi); have hcv126 := own_string (P := Try.prog) Try.underlying49 Try.underlying5 Try.underlying9 (Kd.own_of_R HO_7.out)) | ((with_reducible refine gate_callee (f := 12) rfl ?_); refine goesL_ (some 156) rfl rfl Try.func12 (by kernel_rfl) rfl #[.string (⟨#[]⟩ : ByteArray), .string ((strOfNums x7_6) ++ (⟨#[122]⟩ : ByteArray))] rfl (by (try simp only [List.map_toArray, List.map_cons, List.map_nil]); first | done | rfl | (simp only [List.length_drop, List.length_take]; rfl)) ?_; (with_reducible refine (diff_Distance.calls (⟨#[]⟩ : ByteArray) ((strOfNums x7_6) ++ (⟨#[122]⟩ : ByteArray)) t249 t250 _ A78.out).mono ?_); rintro e w127 ⟨rfl, hb⟩; refine ⟨_, rfl, ?_⟩; have n0_ := Aside0.mk (Kd.R_below (by (with_reducible repeat (first | apply Kd.R_alloc | apply Kd.R_drewN | apply Kd.R_drew)); exact HO_7.out) hb); have n1_ := Aside0.mk (below_step (by repeat (first | (with_reducible first | exact HB.out | apply below_alloc | apply pw_below_drewN | apply below_drew1) | exact HB.out)) hb); clear HO_7; clear HB; have HO_7 := n0_; have HB := n1_; clear n0_ n1_; (try clear hb); (try clear hb2); (try clear hk); (try clear hi)))
                                                  have n0_ := Aside0.mk (Kd.R_drew HO_7.out)
                                                  have n1_ := Aside0.mk (below_drew1 HB.out)
                                                  clear HO_7
                                                  clear HB
                                                  have HO_7 := n0_
                                                  have HB := n1_
                                                  clear n0_ n1_
                                                  refine start_ (n := 12) (S := fun w' => True) (ds := []) #[false, false, false, false, false, false, false, false, false, false, false, false] (by kernel_rfl) rfl rfl trivial (fun hHeld => ?_); refine with_tabW jotterlaw17_DiffApart.tab40 jotterlaw17_DiffApart.bits40 (fun HT_ HW_ => ?_)
                                                  generalize w127.drew = w128 at HO_7 HB hHeld ⊢
                                                  refine pure_ (i := 0) (N := some 172) (v := ?_) (a' := ?_) #[true, false, false, false, false, false, false, false, false, false, false, false] rfl rfl (any_of HT_.out (by kernel_rfl)) (fun _ _ _ h => h) (Or.inl ⟨by rfl, ?_⟩) ?_ ?_
                                                  rotate_left
                                                  · intro w'
                                                    go_simp
                                                    with_reducible rfl
                                                  rotate_left
                                                  · simp only [Act.put, List.setIfInBounds_toArray, List.set_cons_zero, List.set_cons_succ, i64_w, i32_w]
                                                    rfl
                                                  refine pure_ (i := 1) (N := some 173) (v := ?_) (a' := ?_) #[true, true, false, false, false, false, false, false, false, false, false, false] rfl rfl (any_of HT_.out (by kernel_rfl)) (fun _ _ _ h => h) (Or.inl ⟨by rfl, ?_⟩) ?_ ?_
                                                  rotate_left
                                                  · intro w'
                                                    go_simp
                                                    with_reducible rfl
                                                  rotate_left
                                                  · simp only [Act.put, List.setIfInBounds_toArray, List.set_cons_zero, List.set_cons_succ, i64_w, i32_w]
                                                    rfl
                                                  refine pure_ (i := 2) (N := some 174) (v := ?_) (a' := ?_) #[true, true, true, false, false, false, false, false, false, false, false, false] rfl rfl (any_of HT_.out (by kernel_rfl)) (fun _ _ _ h => h) (Or.inl ⟨by rfl, ?_⟩) ?_ ?_
                                                  rotate_left
                                                  · intro w'
                                                    go_simp
                                                    with_reducible rfl
                                                  rotate_left
                                                  · simp only [Act.put, List.setIfInBounds_toArray, List.set_cons_zero, List.set_cons_succ, i64_w, i32_w]
                                                    rfl
                                                  refine pure_ (i := 3) (N := some 175) (v := ?_) (a' := ?_) #[true, true, true, true, false, false, false, false, false, false, false, false] rfl rfl (any_of HT_.out (by kernel_rfl)) (fun _ _ _ h => h) (Or.inl ⟨by rfl, ?_⟩) ?_ ?_
                                                  rotate_left
                                                  · intro w'
                                                    go_simp
                                                    with_reducible rfl
                                                  rotate_left
                                                  · simp only [Act.put, List.setIfInBounds_toArray, List.set_cons_zero, List.set_cons_succ, i64_w, i32_w]
                                                    rfl
                                                  refine pure_ (i := 4) (N := some 176) (v := ?_) (a' := ?_) #[true, true, true, true, true, false, false, false, false, false, false, false] rfl rfl (any_of HT_.out (by kernel_rfl)) (fun _ _ _ h => h) (Or.inl ⟨by rfl, ?_⟩) ?_ ?_
                                                  rotate_left
                                                  · intro w'
                                                    go_simp
                                                    with_reducible rfl
                                                  rotate_left
                                                  · simp only [Act.put, List.setIfInBounds_toArray, List.set_cons_zero, List.set_cons_succ, i64_w, i32_w]
                                                    rfl
                                                  refine one_ (i := 5) (N := some 177) #[true, true, true, true, true, true, false, false, false, false, false, false] rfl rfl (one_of HT_.out (by kernel_rfl)) (by decide) (fun K hK => ?_)
                                                  refine Kd.R_lit_step (Kd.int .u8) _ 5 ?hg (N := 177) ?hd (xs := ([113, a2] : List Int)) (inner := [.int .u8 113, .int .u8 a2]) (ok := fun _ => True) (okp := fun _ => True) ?hr ?hp (fun _ hk => hk) trivial (Below.refl _ _) (Nat.le_refl _) (by simp) ?_; (case hd => rfl); (case hg => rfl); (case hr => first | (go_simp; done) | (go_simp; rfl)); (case hp => exact (Reps.one (show Kd.M (Kd.int .u8) _ _ _ 113 [.int .u8 113] from rfl) (Reps.one (show Kd.M (Kd.int .u8) _ _ _ a2 [.int .u8 a2] from rfl) (Reps.none _ _))))
                                                  intro v257 w129 ho130 hb hg_ hnew_
                                                  clear hg_ hnew_
                                                  (first | rw [← Ny256.out] at ho130 | (simp only [Int.reduceToNat] at ho130; rw [← Ny256.out] at ho130))
                                                  have n0_ := Aside0.mk (Kd.R_elder' (by (with_reducible repeat (first | apply Kd.R_alloc | apply Kd.R_drewN | apply Kd.R_drew)); exact HO_7.out) (Kd.R_base ho130) hb)
                                                  have n1_ := Aside0.mk (Kd.R_lower (Kd.R_new' ho130 (Kd.R_lt (by (with_reducible repeat (first | apply Kd.R_alloc | apply Kd.R_drewN | apply Kd.R_drew)); exact HO_7.out))) (below_size (by repeat (first | (with_reducible first | exact HB.out | apply below_alloc | apply pw_below_drewN | apply below_drew1) | exact HB.out))))
                                                  have n2_ := Aside0.mk (below_step (by repeat (first | (with_reducible first | exact HB.out | apply below_alloc | apply pw_below_drewN | apply below_drew1) | exact HB.out)) hb)
                                                  clear HO_7
                                                  clear HB
                                                  have HO_7 := n0_
                                                  have HO258 := n1_
                                                  have HB := n2_
                                                  clear n0_ n1_ n2_
                                                  clear hb ho130
                                                  refine hK.out _ _ trivial (fun hHeld => ?_)
                                                  clear hK K
                                                  refine norm_ (a' := ?_) ?_ ?_
                                                  rotate_left
                                                  · show Act.put _ (some 177) _ = _
                                                    simp only [Act.put, List.setIfInBounds_toArray, List.set_cons_zero, List.set_cons_succ, i64_w, i32_w]
                                                    rfl
                                                  refine one_ (i := 6) (N := some 178) #[true, true, true, true, true, true, true, false, false, false, false, false] rfl rfl (one_of HT_.out (by kernel_rfl)) (by decide) (fun K hK => ?_)
                                                  have hcv131 := own_string (P := Try.prog) Try.underlying49 Try.underlying5 Try.underlying9 (Kd.own_of_R HO258.out)
                                                  refine value_ (w1 := ?_) (v := ?_) (by rfl) rfl ?_ ?_
                                                  rotate_left 2
                                                  · go_simp
                                                    constructor
                                                    · rfl
                                                    · rfl
                                                  clear hcv131
                                                  refine hK.out _ _ trivial (fun hHeld => ?_)
                                                  clear hK K
                                                  refine norm_ (a' := ?_) ?_ ?_
                                                  rotate_left
                                                  · show Act.put _ (some 178) _ = _
                                                    simp only [Act.put, List.setIfInBounds_toArray, List.set_cons_zero, List.set_cons_succ, i64_w, i32_w]
                                                    rfl
                                                  refine one_ (i := 7) (N := some 179) #[true, true, true, true, true, true, true, true, false, false, false, false] rfl rfl (one_of HT_.out (by kernel_rfl)) (by decide) (fun K hK => ?_)
                                                  refine goes_ Try.func13 (by kernel_rfl) rfl #[.string ((strOfNums x7_1).extract 0 ((ji118) : Int).toNat), .string (strOfNums y256)] (by rfl) rfl rfl (by (try simp only [List.map_toArray, List.map_cons, List.map_nil]); first | done | (simp only [hji118]; rfl) | rfl | (simp only [List.length_drop, List.length_take]; rfl)) ?_
                                                  with_reducible refine (diff_Common.calls ((strOfNums x7_1).extract 0 ((ji118) : Int).toNat) (strOfNums y256) t259 t260 _ A121.out).mono ?_
                                                  rintro e w132 ⟨rfl, hb⟩
                                                  refine ⟨_, rfl, ?_⟩
                                                  have n0_ := Aside0.mk (Kd.R_below (by (with_reducible repeat (first | apply Kd.R_alloc | apply Kd.R_drewN | apply Kd.R_drew)); exact HO_7.out) hb)
                                                  have n1_ := Aside0.mk (Kd.R_below (by (with_reducible repeat (first | apply Kd.R_alloc | apply Kd.R_drewN | apply Kd.R_drew)); exact HO258.out) hb)
                                                  have n2_ := Aside0.mk (below_step (by repeat (first | (with_reducible first | exact HB.out | apply below_alloc | apply pw_below_drewN | apply below_drew1) | exact HB.out)) hb)
                                                  clear HO_7
                                                  clear HO258
                                                  clear HB
                                                  have HO_7 := n0_
                                                  have HO258 := n1_
                                                  have HB := n2_
                                                  clear n0_ n1_ n2_
                                                  (try clear hb)
                                                  (try clear hb2)
                                                  (try clear hk)
                                                  (try clear hi)
                                                  refine hK.out _ _ trivial (fun hHeld => ?_)
                                                  clear hK K
                                                  refine norm_ (a' := ?_) ?_ ?_
                                                  rotate_left
                                                  · show Act.put _ (some 179) _ = _
                                                    simp only [Act.put, List.setIfInBounds_toArray, List.set_cons_zero, List.set_cons_succ, i64_w, i32_w]
                                                    rfl
                                                  refine pure_ (i := 8) (N := some 171) (v := ?_) (a' := ?_) #[true, true, true, true, true, true, true, true, true, false, false, false] rfl rfl (any_of HT_.out (by kernel_rfl)) (fun _ _ _ h => h) (Or.inl ⟨by rfl, ?_⟩) ?_ ?_
                                                  rotate_left
                                                  · intro w'
                                                    go_simp
                                                    with_reducible rfl
                                                  rotate_left
                                                  · simp only [Act.put, List.setIfInBounds_toArray, List.set_cons_zero, List.set_cons_succ, i64_w, i32_w]
                                                    rfl
                                                  refine pure_ (i := 9) (N := some 180) (v := ?_) (a' := ?_) #[true, true, true, true, true, true, true, true, true, true, false, false] rfl rfl (any_of HT_.out (by kernel_rfl)) (fun _ _ _ h => h) (Or.inl ⟨by rfl, ?_⟩) ?_ ?_
                                                  rotate_left
                                                  · intro w'
                                                    go_simp
                                                    with_reducible rfl
                                                  rotate_left
                                                  · simp only [Act.put, List.setIfInBounds_toArray, List.set_cons_zero, List.set_cons_succ, i64_w, i32_w]
                                                    rfl
                                                  refine pure_ (i := 10) (N := some 181) (v := ?_) (a' := ?_) #[true, true, true, true, true, true, true, true, true, true, true, false] rfl rfl (any_of HT_.out (by kernel_rfl)) (fun _ _ _ h => h) (Or.inl ⟨by rfl, ?_⟩) ?_ ?_
                                                  rotate_left
                                                  · intro w'
                                                    go_simp
                                                    with_reducible rfl
                                                  rotate_left
                                                  · simp only [Act.put, List.setIfInBounds_toArray, List.set_cons_zero, List.set_cons_succ, i64_w, i32_w]
                                                    rfl
                                                  refine pure_ (i := 11) (N := some 18) (v := ?_) (a' := ?_) #[true, true, true, true, true, true, true, true, true, true, true, true] rfl rfl (any_of HT_.out (by kernel_rfl)) (fun _ _ _ h => h) (Or.inl ⟨by rfl, ?_⟩) ?_ ?_
                                                  rotate_left
                                                  · intro w'
                                                    go_simp
                                                    with_reducible rfl
                                                  rotate_left
                                                  · simp only [Act.put, List.setIfInBounds_toArray, List.set_cons_zero, List.set_cons_succ, i64_w, i32_w]
                                                    rfl
                                                  refine done_ (done_of HT_.out (by kernel_rfl)) ?_
                                                  try go_wp2
                                                  go_ret
                                                  exact ⟨by first | rfl | (simp [errW_none, errW_some] <;> rfl) | (simp only [← hji118]; first | rfl | (simp [errW_none, errW_some] <;> rfl)) | (simp [*, errW_none, errW_some] <;> rfl), by repeat (first | (with_reducible first | exact HB.out | apply below_alloc | apply pw_below_drewN | apply below_drew1) | exact HB.out)⟩
                                                · rw [if_neg c122] at H
                                                  have c122b0 : ((t260 == 0) == false) = false := by simpa using c122
                                                  (try (have c122b1 : decide ((t260 == 0) = false) = false := by simpa using c122))
                                                  (try (have c122b2 : ((t260 == 0) == false) = false := by simpa using c122))
                                                  (try (have c122b3 : ¬ ((t260 == 0) = false) := by simpa using c122))
                                                  clear c122
                                                  obtain rfl := Option.some.inj H
                                                  obtain ⟨Ao133, co133, eo133⟩ := Kd.R_slice HO_7.out
                                                  subst eo133
                                                  have hcv134 := own_string (P := Try.prog) Try.underlying49 Try.underlying5 Try.underlying9 (Kd.own_of_R HO_7.out)
                                                  try go_wp2_with (first | ((with_reducible refine gate_callee (f := 12) rfl ?_); refine goesL_ (some 149) rfl rfl Try.func12 (by kernel_rfl) rfl #[.string (strOfNums x7_6), .string (⟨#[]⟩ : ByteArray)] rfl (by (try simp only [List.map_toArray, List.map_cons, List.map_nil]); first | done | rfl | (simp only [List.length_drop, List.length_take]; rfl)) ?_; (with_reducible refine (diff_Distance.calls (strOfNums x7_6) (⟨#[]⟩ : ByteArray) t247 t248 _ A76.out).mono ?_); rintro e w135 ⟨rfl, hb⟩; refine ⟨_, rfl, ?_⟩; have n0_ := Aside0.mk (Kd.R_below (by (with_reducible repeat (first | apply Kd.R_alloc | apply Kd.R_drewN | apply Kd.R_drew)); exact HO_7.out) hb); have n1_ := Aside0.mk (below_step (by repeat (first | (with_reducible first | exact HB.out | apply below_alloc | apply pw_below_drewN | apply below_drew1) | exact HB.out)) hb); clear HO_7; clear HB; have HO_7 := n0_; have HB := n1_; clear n0_ n1_; (try clear hb); (try clear hb2); (try clear hk); (try clear hi); have hcv136 := own_string (P := Try.prog) Try.underlying49 Try.underlying5 Try.underlying9 (Kd.own_of_R HO_7.out)) | ((with_reducible refine gate_callee (f := 12) rfl ?_); refine goesL_ (some 156) rfl rfl Try.func12 (by kernel_rfl) rfl #[.string (⟨#[]⟩ : ByteArray), .string ((strOfNums x7_6) ++ (⟨#[122]⟩ : ByteArray))] rfl (by (try simp only [List.map_toArray, List.map_cons, List.map_nil]); first | done | rfl | (simp only [List.length_drop, List.length_take]; rfl)) ?_; (with_reducible refine (diff_Distance.calls (⟨#[]⟩ : ByteArray) ((strOfNums x7_6) ++ (⟨#[122]⟩ : ByteArray)) t249 t250 _ A78.out).mono ?_); rintro e w137 ⟨rfl, hb⟩; refine ⟨_, rfl, ?_⟩; have n0_ := Aside0.mk (Kd.R_below (by (with_reducible repeat (first | apply Kd.R_alloc | apply Kd.R_drewN | apply Kd.R_drew)); exact HO_7.out) hb); have n1_ := Aside0.mk (below_step (by repeat (first | (with_reducible first | exact HB.out | apply below_alloc | apply pw_below_drewN | apply below_drew1) | exact HB.out)) hb); clear HO_7; clear HB; have HO_7 := n0_; have HB := n1_; clear n0_ n1_; (try clear hb); (try clear hb2); (try clear hk); (try clear hi)))
                                                  have n0_ := Aside0.mk (Kd.R_drew HO_7.out)
                                                  have n1_ := Aside0.mk (below_drew1 HB.out)
                                                  clear HO_7
                                                  clear HB
                                                  have HO_7 := n0_
                                                  have HB := n1_
                                                  clear n0_ n1_
                                                  refine start_ (n := 12) (S := fun w' => True) (ds := []) #[false, false, false, false, false, false, false, false, false, false, false, false] (by kernel_rfl) rfl rfl trivial (fun hHeld => ?_); refine with_tabW jotterlaw17_DiffApart.tab40 jotterlaw17_DiffApart.bits40 (fun HT_ HW_ => ?_)
                                                  generalize w137.drew = w138 at HO_7 HB hHeld ⊢
                                                  refine pure_ (i := 0) (N := some 172) (v := ?_) (a' := ?_) #[true, false, false, false, false, false, false, false, false, false, false, false] rfl rfl (any_of HT_.out (by kernel_rfl)) (fun _ _ _ h => h) (Or.inl ⟨by rfl, ?_⟩) ?_ ?_
                                                  rotate_left
                                                  · intro w'
                                                    go_simp
                                                    with_reducible rfl
                                                  rotate_left
                                                  · simp only [Act.put, List.setIfInBounds_toArray, List.set_cons_zero, List.set_cons_succ, i64_w, i32_w]
                                                    rfl
                                                  refine pure_ (i := 1) (N := some 173) (v := ?_) (a' := ?_) #[true, true, false, false, false, false, false, false, false, false, false, false] rfl rfl (any_of HT_.out (by kernel_rfl)) (fun _ _ _ h => h) (Or.inl ⟨by rfl, ?_⟩) ?_ ?_
                                                  rotate_left
                                                  · intro w'
                                                    go_simp
                                                    with_reducible rfl
                                                  rotate_left
                                                  · simp only [Act.put, List.setIfInBounds_toArray, List.set_cons_zero, List.set_cons_succ, i64_w, i32_w]
                                                    rfl
                                                  refine pure_ (i := 2) (N := some 174) (v := ?_) (a' := ?_) #[true, true, true, false, false, false, false, false, false, false, false, false] rfl rfl (any_of HT_.out (by kernel_rfl)) (fun _ _ _ h => h) (Or.inl ⟨by rfl, ?_⟩) ?_ ?_
                                                  rotate_left
                                                  · intro w'
                                                    go_simp
                                                    with_reducible rfl
                                                  rotate_left
                                                  · simp only [Act.put, List.setIfInBounds_toArray, List.set_cons_zero, List.set_cons_succ, i64_w, i32_w]
                                                    rfl
                                                  refine pure_ (i := 3) (N := some 175) (v := ?_) (a' := ?_) #[true, true, true, true, false, false, false, false, false, false, false, false] rfl rfl (any_of HT_.out (by kernel_rfl)) (fun _ _ _ h => h) (Or.inl ⟨by rfl, ?_⟩) ?_ ?_
                                                  rotate_left
                                                  · intro w'
                                                    go_simp
                                                    with_reducible rfl
                                                  rotate_left
                                                  · simp only [Act.put, List.setIfInBounds_toArray, List.set_cons_zero, List.set_cons_succ, i64_w, i32_w]
                                                    rfl
                                                  refine pure_ (i := 4) (N := some 176) (v := ?_) (a' := ?_) #[true, true, true, true, true, false, false, false, false, false, false, false] rfl rfl (any_of HT_.out (by kernel_rfl)) (fun _ _ _ h => h) (Or.inl ⟨by rfl, ?_⟩) ?_ ?_
                                                  rotate_left
                                                  · intro w'
                                                    go_simp
                                                    with_reducible rfl
                                                  rotate_left
                                                  · simp only [Act.put, List.setIfInBounds_toArray, List.set_cons_zero, List.set_cons_succ, i64_w, i32_w]
                                                    rfl
                                                  refine one_ (i := 5) (N := some 177) #[true, true, true, true, true, true, false, false, false, false, false, false] rfl rfl (one_of HT_.out (by kernel_rfl)) (by decide) (fun K hK => ?_)
                                                  refine Kd.R_lit_step (Kd.int .u8) _ 5 ?hg (N := 177) ?hd (xs := ([113, a2] : List Int)) (inner := [.int .u8 113, .int .u8 a2]) (ok := fun _ => True) (okp := fun _ => True) ?hr ?hp (fun _ hk => hk) trivial (Below.refl _ _) (Nat.le_refl _) (by simp) ?_; (case hd => rfl); (case hg => rfl); (case hr => first | (go_simp; done) | (go_simp; rfl)); (case hp => exact (Reps.one (show Kd.M (Kd.int .u8) _ _ _ 113 [.int .u8 113] from rfl) (Reps.one (show Kd.M (Kd.int .u8) _ _ _ a2 [.int .u8 a2] from rfl) (Reps.none _ _))))
                                                  intro v257 w139 ho140 hb hg_ hnew_
                                                  clear hg_ hnew_
                                                  (first | rw [← Ny256.out] at ho140 | (simp only [Int.reduceToNat] at ho140; rw [← Ny256.out] at ho140))
                                                  have n0_ := Aside0.mk (Kd.R_elder' (by (with_reducible repeat (first | apply Kd.R_alloc | apply Kd.R_drewN | apply Kd.R_drew)); exact HO_7.out) (Kd.R_base ho140) hb)
                                                  have n1_ := Aside0.mk (Kd.R_lower (Kd.R_new' ho140 (Kd.R_lt (by (with_reducible repeat (first | apply Kd.R_alloc | apply Kd.R_drewN | apply Kd.R_drew)); exact HO_7.out))) (below_size (by repeat (first | (with_reducible first | exact HB.out | apply below_alloc | apply pw_below_drewN | apply below_drew1) | exact HB.out))))
                                                  have n2_ := Aside0.mk (below_step (by repeat (first | (with_reducible first | exact HB.out | apply below_alloc | apply pw_below_drewN | apply below_drew1) | exact HB.out)) hb)
                                                  clear HO_7
                                                  clear HB
                                                  have HO_7 := n0_
                                                  have HO258 := n1_
                                                  have HB := n2_
                                                  clear n0_ n1_ n2_
                                                  clear hb ho140
                                                  refine hK.out _ _ trivial (fun hHeld => ?_)
                                                  clear hK K
                                                  refine norm_ (a' := ?_) ?_ ?_
                                                  rotate_left
                                                  · show Act.put _ (some 177) _ = _
                                                    simp only [Act.put, List.setIfInBounds_toArray, List.set_cons_zero, List.set_cons_succ, i64_w, i32_w]
                                                    rfl
                                                  refine one_ (i := 6) (N := some 178) #[true, true, true, true, true, true, true, false, false, false, false, false] rfl rfl (one_of HT_.out (by kernel_rfl)) (by decide) (fun K hK => ?_)
                                                  have hcv141 := own_string (P := Try.prog) Try.underlying49 Try.underlying5 Try.underlying9 (Kd.own_of_R HO258.out)
                                                  refine value_ (w1 := ?_) (v := ?_) (by rfl) rfl ?_ ?_
                                                  rotate_left 2
                                                  · go_simp
                                                    constructor
                                                    · rfl
                                                    · rfl
                                                  clear hcv141
                                                  refine hK.out _ _ trivial (fun hHeld => ?_)
                                                  clear hK K
                                                  refine norm_ (a' := ?_) ?_ ?_
                                                  rotate_left
                                                  · show Act.put _ (some 178) _ = _
                                                    simp only [Act.put, List.setIfInBounds_toArray, List.set_cons_zero, List.set_cons_succ, i64_w, i32_w]
                                                    rfl
                                                  refine one_ (i := 7) (N := some 179) #[true, true, true, true, true, true, true, true, false, false, false, false] rfl rfl (one_of HT_.out (by kernel_rfl)) (by decide) (fun K hK => ?_)
                                                  refine goes_ Try.func13 (by kernel_rfl) rfl #[.string ((strOfNums x7_1).extract 0 ((ji118) : Int).toNat), .string (strOfNums y256)] (by rfl) rfl rfl (by (try simp only [List.map_toArray, List.map_cons, List.map_nil]); first | done | (simp only [hji118]; rfl) | rfl | (simp only [List.length_drop, List.length_take]; rfl)) ?_
                                                  with_reducible refine (diff_Common.calls ((strOfNums x7_1).extract 0 ((ji118) : Int).toNat) (strOfNums y256) t259 t260 _ A121.out).mono ?_
                                                  rintro e w142 ⟨rfl, hb⟩
                                                  refine ⟨_, rfl, ?_⟩
                                                  have n0_ := Aside0.mk (Kd.R_below (by (with_reducible repeat (first | apply Kd.R_alloc | apply Kd.R_drewN | apply Kd.R_drew)); exact HO_7.out) hb)
                                                  have n1_ := Aside0.mk (Kd.R_below (by (with_reducible repeat (first | apply Kd.R_alloc | apply Kd.R_drewN | apply Kd.R_drew)); exact HO258.out) hb)
                                                  have n2_ := Aside0.mk (below_step (by repeat (first | (with_reducible first | exact HB.out | apply below_alloc | apply pw_below_drewN | apply below_drew1) | exact HB.out)) hb)
                                                  clear HO_7
                                                  clear HO258
                                                  clear HB
                                                  have HO_7 := n0_
                                                  have HO258 := n1_
                                                  have HB := n2_
                                                  clear n0_ n1_ n2_
                                                  (try clear hb)
                                                  (try clear hb2)
                                                  (try clear hk)
                                                  (try clear hi)
                                                  refine hK.out _ _ trivial (fun hHeld => ?_)
                                                  clear hK K
                                                  refine norm_ (a' := ?_) ?_ ?_
                                                  rotate_left
                                                  · show Act.put _ (some 179) _ = _
                                                    simp only [Act.put, List.setIfInBounds_toArray, List.set_cons_zero, List.set_cons_succ, i64_w, i32_w]
                                                    rfl
                                                  refine pure_ (i := 8) (N := some 171) (v := ?_) (a' := ?_) #[true, true, true, true, true, true, true, true, true, false, false, false] rfl rfl (any_of HT_.out (by kernel_rfl)) (fun _ _ _ h => h) (Or.inl ⟨by rfl, ?_⟩) ?_ ?_
                                                  rotate_left
                                                  · intro w'
                                                    go_simp
                                                    with_reducible rfl
                                                  rotate_left
                                                  · simp only [Act.put, List.setIfInBounds_toArray, List.set_cons_zero, List.set_cons_succ, i64_w, i32_w]
                                                    rfl
                                                  refine pure_ (i := 9) (N := some 180) (v := ?_) (a' := ?_) #[true, true, true, true, true, true, true, true, true, true, false, false] rfl rfl (any_of HT_.out (by kernel_rfl)) (fun _ _ _ h => h) (Or.inl ⟨by rfl, ?_⟩) ?_ ?_
                                                  rotate_left
                                                  · intro w'
                                                    go_simp
                                                    with_reducible rfl
                                                  rotate_left
                                                  · simp only [Act.put, List.setIfInBounds_toArray, List.set_cons_zero, List.set_cons_succ, i64_w, i32_w]
                                                    rfl
                                                  refine pure_ (i := 10) (N := some 181) (v := ?_) (a' := ?_) #[true, true, true, true, true, true, true, true, true, true, true, false] rfl rfl (any_of HT_.out (by kernel_rfl)) (fun _ _ _ h => h) (Or.inl ⟨by rfl, ?_⟩) ?_ ?_
                                                  rotate_left
                                                  · intro w'
                                                    go_simp
                                                    with_reducible rfl
                                                  rotate_left
                                                  · simp only [Act.put, List.setIfInBounds_toArray, List.set_cons_zero, List.set_cons_succ, i64_w, i32_w]
                                                    rfl
                                                  refine pure_ (i := 11) (N := some 18) (v := ?_) (a' := ?_) #[true, true, true, true, true, true, true, true, true, true, true, true] rfl rfl (any_of HT_.out (by kernel_rfl)) (fun _ _ _ h => h) (Or.inl ⟨by rfl, ?_⟩) ?_ ?_
                                                  rotate_left
                                                  · intro w'
                                                    go_simp
                                                    with_reducible rfl
                                                  rotate_left
                                                  · simp only [Act.put, List.setIfInBounds_toArray, List.set_cons_zero, List.set_cons_succ, i64_w, i32_w]
                                                    rfl
                                                  refine done_ (done_of HT_.out (by kernel_rfl)) ?_
                                                  try go_wp2
                                                  go_ret
                                                  exact ⟨by first | rfl | (simp [errW_none, errW_some] <;> rfl) | (simp only [← hji118]; first | rfl | (simp [errW_none, errW_some] <;> rfl)) | (simp [*, errW_none, errW_some] <;> rfl), by repeat (first | (with_reducible first | exact HB.out | apply below_alloc | apply pw_below_drewN | apply below_drew1) | exact HB.out)⟩
                                              · rw [if_neg c120] at H
                                                exact absurd H (by simp)
                                            · rw [if_neg c119] at H
                                              exact absurd H (by simp)
                                        · rw [if_neg c80] at H
                                          have c80b0 : (t250 == 170) = false := beq_eq_false_iff_ne.mpr c80
                                          have c80b1 : (t250 != 170) = true := bne_iff_ne.mpr c80
                                          obtain rfl := Option.some.inj H
                                          obtain ⟨Ao143, co143, eo143⟩ := Kd.R_slice HO_7.out
                                          subst eo143
                                          have hcv144 := own_string (P := Try.prog) Try.underlying49 Try.underlying5 Try.underlying9 (Kd.own_of_R HO_7.out)
                                          go_wp2_with (first | ((with_reducible refine gate_callee (f := 12) rfl ?_); refine goesL_ (some 149) rfl rfl Try.func12 (by kernel_rfl) rfl #[.string (strOfNums x7_6), .string (⟨#[]⟩ : ByteArray)] rfl (by (try simp only [List.map_toArray, List.map_cons, List.map_nil]); first | done | rfl | (simp only [List.length_drop, List.length_take]; rfl)) ?_; (with_reducible refine (diff_Distance.calls (strOfNums x7_6) (⟨#[]⟩ : ByteArray) t247 t248 _ A76.out).mono ?_); rintro e w145 ⟨rfl, hb⟩; refine ⟨_, rfl, ?_⟩; have n0_ := Aside0.mk (Kd.R_below (by (with_reducible repeat (first | apply Kd.R_alloc | apply Kd.R_drewN | apply Kd.R_drew)); exact HO_7.out) hb); have n1_ := Aside0.mk (below_step (by repeat (first | (with_reducible first | exact HB.out | apply below_alloc | apply pw_below_drewN | apply below_drew1) | exact HB.out)) hb); clear HO_7; clear HB; have HO_7 := n0_; have HB := n1_; clear n0_ n1_; (try clear hb); (try clear hb2); (try clear hk); (try clear hi); have hcv146 := own_string (P := Try.prog) Try.underlying49 Try.underlying5 Try.underlying9 (Kd.own_of_R HO_7.out)) | ((with_reducible refine gate_callee (f := 12) rfl ?_); refine goesL_ (some 156) rfl rfl Try.func12 (by kernel_rfl) rfl #[.string (⟨#[]⟩ : ByteArray), .string ((strOfNums x7_6) ++ (⟨#[122]⟩ : ByteArray))] rfl (by (try simp only [List.map_toArray, List.map_cons, List.map_nil]); first | done | rfl | (simp only [List.length_drop, List.length_take]; rfl)) ?_; (with_reducible refine (diff_Distance.calls (⟨#[]⟩ : ByteArray) ((strOfNums x7_6) ++ (⟨#[122]⟩ : ByteArray)) t249 t250 _ A78.out).mono ?_); rintro e w147 ⟨rfl, hb⟩; refine ⟨_, rfl, ?_⟩; have n0_ := Aside0.mk (Kd.R_below (by (with_reducible repeat (first | apply Kd.R_alloc | apply Kd.R_drewN | apply Kd.R_drew)); exact HO_7.out) hb); have n1_ := Aside0.mk (below_step (by repeat (first | (with_reducible first | exact HB.out | apply below_alloc | apply pw_below_drewN | apply below_drew1) | exact HB.out)) hb); clear HO_7; clear HB; have HO_7 := n0_; have HB := n1_; clear n0_ n1_; (try clear hb); (try clear hb2); (try clear hk); (try clear hi)))
                                          go_ret
                                          exact ⟨by first | rfl | (simp [errW_none, errW_some] <;> rfl) | (simp [*, errW_none, errW_some] <;> rfl), by repeat (first | (with_reducible first | exact HB.out | apply below_alloc | apply pw_below_drewN | apply below_drew1) | exact HB.out)⟩
                                      · rw [if_neg c79] at H
                                        have c79b0 : (t248 == 0) = false := beq_eq_false_iff_ne.mpr c79
                                        have c79b1 : (t248 != 0) = true := bne_iff_ne.mpr c79
                                        obtain rfl := Option.some.inj H
                                        obtain ⟨Ao148, co148, eo148⟩ := Kd.R_slice HO_7.out
                                        subst eo148
                                        have hcv149 := own_string (P := Try.prog) Try.underlying49 Try.underlying5 Try.underlying9 (Kd.own_of_R HO_7.out)
                                        go_wp2_with (first | ((with_reducible refine gate_callee (f := 12) rfl ?_); refine goesL_ (some 149) rfl rfl Try.func12 (by kernel_rfl) rfl #[.string (strOfNums x7_6), .string (⟨#[]⟩ : ByteArray)] rfl (by (try simp only [List.map_toArray, List.map_cons, List.map_nil]); first | done | rfl | (simp only [List.length_drop, List.length_take]; rfl)) ?_; (with_reducible refine (diff_Distance.calls (strOfNums x7_6) (⟨#[]⟩ : ByteArray) t247 t248 _ A76.out).mono ?_); rintro e w150 ⟨rfl, hb⟩; refine ⟨_, rfl, ?_⟩; have n0_ := Aside0.mk (Kd.R_below (by (with_reducible repeat (first | apply Kd.R_alloc | apply Kd.R_drewN | apply Kd.R_drew)); exact HO_7.out) hb); have n1_ := Aside0.mk (below_step (by repeat (first | (with_reducible first | exact HB.out | apply below_alloc | apply pw_below_drewN | apply below_drew1) | exact HB.out)) hb); clear HO_7; clear HB; have HO_7 := n0_; have HB := n1_; clear n0_ n1_; (try clear hb); (try clear hb2); (try clear hk); (try clear hi); have hcv151 := own_string (P := Try.prog) Try.underlying49 Try.underlying5 Try.underlying9 (Kd.own_of_R HO_7.out)) | ((with_reducible refine gate_callee (f := 12) rfl ?_); refine goesL_ (some 156) rfl rfl Try.func12 (by kernel_rfl) rfl #[.string (⟨#[]⟩ : ByteArray), .string ((strOfNums x7_6) ++ (⟨#[122]⟩ : ByteArray))] rfl (by (try simp only [List.map_toArray, List.map_cons, List.map_nil]); first | done | rfl | (simp only [List.length_drop, List.length_take]; rfl)) ?_; (with_reducible refine (diff_Distance.calls (⟨#[]⟩ : ByteArray) ((strOfNums x7_6) ++ (⟨#[122]⟩ : ByteArray)) t249 t250 _ A78.out).mono ?_); rintro e w152 ⟨rfl, hb⟩; refine ⟨_, rfl, ?_⟩; have n0_ := Aside0.mk (Kd.R_below (by (with_reducible repeat (first | apply Kd.R_alloc | apply Kd.R_drewN | apply Kd.R_drew)); exact HO_7.out) hb); have n1_ := Aside0.mk (below_step (by repeat (first | (with_reducible first | exact HB.out | apply below_alloc | apply pw_below_drewN | apply below_drew1) | exact HB.out)) hb); clear HO_7; clear HB; have HO_7 := n0_; have HB := n1_; clear n0_ n1_; (try clear hb); (try clear hb2); (try clear hk); (try clear hi)))
                                        go_ret
                                        exact ⟨by first | rfl | (simp [errW_none, errW_some] <;> rfl) | (simp [*, errW_none, errW_some] <;> rfl), by repeat (first | (with_reducible first | exact HB.out | apply below_alloc | apply pw_below_drewN | apply below_drew1) | exact HB.out)⟩
                                    · rw [if_neg c77] at H
                                      exact absurd H (by simp)

end Go.Proofs.Ytjnciljimacblaa.Q
