/- twice: the walk. Written by a program of this session (mktwice.py). -/
import Derived.Test.YtjdhoipaanlipaaGF
namespace Go.Proofs.Ytjdhoipaanlipaa.G
open Go.RowKit Go.Proofs.Ytjdhoipaanlipaa.Q Go.Proofs.YtjdhoipaanlipaaW.PrintWords Go.Proofs.YtjdhoipaanlipaaW.PrintLast Go.Proofs.YtjdhoipaanlipaaW.PrintMore
set_option linter.unusedVariables false
set_option linter.unusedSimpArgs false
def twT : Bool × List (List Nat × List Nat) := (true, [([], []), ([], []), ([0, 1], [0, 1]), ([2], [2]), ([], []), ([], []), ([4, 5], [4, 5]), ([6], [6]), ([3, 7], [3, 7]), ([8], [8])])
def twB : List Nat := [0, 0, 3, 7, 0, 0, 48, 112, 255, 511]
theorem twTab10 : rtab .any (opsOf Try.f37 10) = twT := by kernel_rfl
theorem twTab33 : rtab .any (opsOf Try.f37 33) = twT := by kernel_rfl
theorem twBits : waitsOk twT.2 twB = true := by kernel_rfl
theorem not_in {X Y : List SV} {n m a b s : Nat} (h1 : ∀ t ∈ X, n ≤ t.1 ∧ t.1 < a) (h2 : ∀ t ∈ Y, m ≤ t.1 ∧ t.1 < b) (l1 : s < n) (l2 : s < m) : ¬ ∃ t ∈ X ++ Y, s = t.1 := by
  rintro ⟨t, ht, e⟩
  rcases List.mem_append.1 ht with h | h
  · have := h1 t h; omega
  · have := h2 t h; omega
def mixed (rs : List S24) (i : Nat) : List S24 := (List.range i).map (fun i : Nat => (⟨120, 8, (i : Int) + 1⟩ : S24)) ++ rs.drop i
theorem mixed_zero (rs : List S24) : mixed rs 0 = rs := by simp [mixed]
theorem mixed_length {rs : List S24} {i : Nat} (h : i ≤ rs.length) : (mixed rs i).length = rs.length := by simp [mixed]; omega
theorem mixed_all (rs : List S24) : mixed rs rs.length = (List.range rs.length).map (fun i : Nat => (⟨120, 8, (i : Int) + 1⟩ : S24)) := by simp [mixed]
theorem mixed_set {rs : List S24} {i : Nat} (h : i < rs.length) : (mixed rs i).set i ⟨120, 8, (i : Int) + 1⟩ = mixed rs (i + 1) := by
  unfold mixed
  rw [List.set_append_right _ _ (by simp), List.range_succ, List.map_append, List.append_assoc]
  congr 1
  rw [List.length_map, List.length_range, Nat.sub_self, List.drop_eq_getElem_cons h]
  rfl
set_option maxHeartbeats 8000000 in
set_option maxRecDepth 100000 in
theorem twice_calls (k : Nat) (A0 : Option Addr) (c0 : Nat) (l0 rs rx : List S24) (a1 : Int) (x1 x2 x3 x4 x5 y1 y2 y3 y4 y5 : List S24) (n m p q : Int) (tt uu : ByteArray) (w : World)
    (hr0 : Kd.C k24 w A0 l0.length l0) (hc0 : l0.length ≤ c0) (hl0 : l0.length ≤ 4000)
    (hrs : rs = l0 ++ [⟨101, 9, 1⟩]) (hrx : rx = (List.range rs.length).map (fun i : Nat => (⟨120, 8, (i : Int) + 1⟩ : S24)))
    (hA : AskOK k rs a1 x1 x2 x3 x4 x5 n) (hY : AskOK k rx a1 y1 y2 y3 y4 y5 m)
    (hsame : ∀ z : List S24, z.length ≤ 6000 → jotterlaw04_same.f k z z = some true) (hlx : ∀ z ∈ [x1, x2, x3, x4, x5], z.length ≤ 4990) (hly : ∀ z ∈ [y1, y2, y3, y4, y5], z.length ≤ 4990)
    (ht : doc_Text.f k rs = some tt) (hu : doc_Text.f k rx = some uu) (hp : doc_Find.f k rs 9 1 = some p) (hq : doc_Find.f k rx 9 1 = some q) (hq0 : q < 0)
    (he : doc_Equal.f k rs rs = some true) (hn : doc_Equal.f k rx rs = some false) :
    Calls Try.prog 37 #[.slice A0 l0.length c0, .int .u8 a1] w fun e w' => e = .returned (.bool true) ∧ Below w.heap.size w w' := by
  have hf0 : jotterlaw04_copied.f l0 = some l0 := by
    unfold jotterlaw04_copied.f
    rw [Option.bind_some, if_pos (by simp; omega), List.nil_append]
  have HR0 := Aside0.mk hr0
  have HC0 := Aside0.mk hc0
  have HL0 := Aside0.mk hl0
  have HF0 := Aside0.mk hf0
  have HA := Aside0.mk hA
  have HY_ := Aside0.mk hY
  have HS := Aside0.mk hsame
  have HLX := Aside0.mk hlx
  have HLY := Aside0.mk hly
  have HT := Aside0.mk ht
  have HU := Aside0.mk hu
  have HP := Aside0.mk hp
  have HQ := Aside0.mk hq
  have HE := Aside0.mk he
  have HN := Aside0.mk hn
  have HRX := Aside0.mk hrx
  clear hr0 hc0 hl0 hf0 hA hY hsame hlx hly ht hu hp hq he hn hrx
  have HLR : Aside0 (0 < rs.length ∧ rs.length ≤ 4001) := ⟨by rw [hrs]; simp; exact HL0.out⟩
  go_enter Try.func37, Try.ntmps37
  go_wp2_with (first | ((with_reducible refine gate_dst (N := 20) rfl ?_); refine goesL_ (some 20) rfl rfl Try.func42 (by kernel_rfl) rfl #[.slice A0 l0.length c0] rfl (by (try simp only [List.map_toArray, List.map_cons, List.map_nil]); first | done | rfl) ?_; refine (jotterlaw04_copied.calls A0 c0 l0 l0 _ (Kd.C_below HR0.out (by repeat (first | (with_reducible exact Below.refl _ _) | apply below_alloc | apply pw_below_drewN | apply below_drew1))) HC0.out HF0.out).mono ?_; rintro e w1 ⟨v20, rfl, hro, hb⟩; refine ⟨_, rfl, ?_⟩; have hbb : Below w.heap.size w w1 := below_step (by repeat (first | (with_reducible exact Below.refl _ _) | apply below_alloc | apply pw_below_drewN | apply below_drew1)) hb; have HO20 := Aside0.mk (Kd.R_lower hro (below_size (by repeat (first | (with_reducible exact Below.refl _ _) | apply below_alloc | apply pw_below_drewN | apply below_drew1)))); have HB := Aside0.mk hbb; clear hb hbb hro) | ((with_reducible refine gate_dst (N := 23) rfl ?_); at_builtin; refine Kd.R_append k24 (w0 := w) w.heap.size rfl (.tmp 20) (.tmp 22) 22 24 (.agg #[(.int .u8 0), (.int .i64 0), (.int .i64 0)]) 24 rfl Try.underlying22 info24 rfl (by decide) (by omega) v20 l0 (⟨101, 9, 1⟩ : S24) [.int .u8 101, .int .i64 9, .int .i64 1] (fun _ => True) (fun _ => False) rfl rfl ?aP (fun _ hk => hk.elim) ?aF ?aO ?aB ?aS ?aL ?_; (case aP => exact k24_mkM _ _ _ (⟨101, 9, 1⟩ : S24)); (case aB => exact (by repeat (first | (with_reducible first | exact HB.out | apply below_alloc | apply pw_below_drewN | apply below_drew1) | exact HB.out))); (case aF => exact (fun _ _ => trivial)); (case aO => exact (by (with_reducible repeat (first | apply Kd.R_alloc | apply Kd.R_drewN | apply Kd.R_drew)); exact HO20.out)); (case aS => exact (below_size (by repeat (first | (with_reducible first | exact HB.out | apply below_alloc | apply pw_below_drewN | apply below_drew1) | exact HB.out)))); (case aL => have := HL0.out; omega); intro v23 w2 ho hb hg hat; rw [← hrs] at ho; obtain ⟨s5, hs_, hro, _⟩ := Row.of ho (by have := HLR.out; omega); subst hs_; have HR := Aside0.mk hro; clear HB; have HB := Aside0.mk hb; clear HO20 ho hb hg hat hro) | ((with_reducible refine gate_dst (N := 25) rfl ?_); refine goesL_ (some 25) rfl rfl Try.func42 (by kernel_rfl) rfl #[sv s5] rfl (by (try simp only [List.map_toArray, List.map_cons, List.map_nil]); first | done | rfl) ?_; refine (copied_row (HR.out.below (by repeat (first | (with_reducible exact Below.refl _ _) | apply below_alloc | apply pw_below_drewN | apply below_drew1))) (by have := HLR.out; omega) (by have := HLR.out; omega)).mono ?_; rintro e w3 ⟨s6, rfl, hk, hb⟩; refine ⟨_, rfl, ?_⟩; have hbb : Below w2.heap.size w2 w3 := below_step (by repeat (first | (with_reducible exact Below.refl _ _) | apply below_alloc | apply pw_below_drewN | apply below_drew1)) hb; have HK := Aside0.mk (hk); have L56 := Aside0.mk (Nat.lt_of_lt_of_le HR.out.lt (Nat.le_trans (below_size (by repeat (first | (with_reducible exact Below.refl _ _) | apply below_alloc | apply pw_below_drewN | apply below_drew1))) hk.ge)); have n_ := Aside0.mk (HR.out.below hbb); clear HR; have HR := n_; clear n_; have n_ := Aside0.mk (below_step HB.out hbb); clear HB; have HB := n_; clear n_; clear hk; clear hb hbb) | ((with_reducible refine gate_dst (N := 28) rfl ?_); refine goesL_ (some 28) rfl rfl Try.func43 (by kernel_rfl) rfl #[sv s5, .int .u8 a1] rfl (by (try simp only [List.map_toArray, List.map_cons, List.map_nil]); first | done | rfl) ?_; refine (asked_row k (HR.out.below (by repeat (first | (with_reducible exact Below.refl _ _) | apply below_alloc | apply pw_below_drewN | apply below_drew1))) HA.out).mono ?_; rintro e w4 ⟨AX, cX, sX_, rfl, hk, hb⟩; refine ⟨_, rfl, ?_⟩; have hbb : Below w3.heap.size w3 w4 := below_step (by repeat (first | (with_reducible exact Below.refl _ _) | apply below_alloc | apply pw_below_drewN | apply below_drew1)) hb; have HX := Aside0.mk (hk); have L53 := Aside0.mk (HR.out.lt); have L63 := Aside0.mk (HK.out.lt); have n_ := Aside0.mk (HR.out.below hbb); clear HR; have HR := n_; clear n_; have n_ := Aside0.mk (HK.out.below hbb); clear HK; have HK := n_; clear n_; have n_ := Aside0.mk (below_step HB.out hbb); clear HB; have HB := n_; clear n_; clear hk; clear hb hbb) | ((with_reducible refine gate_dst (N := 31) rfl ?_); refine goesL_ (some 31) rfl rfl Try.func43 (by kernel_rfl) rfl #[sv s5, .int .u8 a1] rfl (by (try simp only [List.map_toArray, List.map_cons, List.map_nil]); first | done | rfl) ?_; refine (asked_row k (HR.out.below (by repeat (first | (with_reducible exact Below.refl _ _) | apply below_alloc | apply pw_below_drewN | apply below_drew1))) HA.out).mono ?_; rintro e w5 ⟨AY, cY, sY_, rfl, hk, hb⟩; refine ⟨_, rfl, ?_⟩; have hbb : Below w4.heap.size w4 w5 := below_step (by repeat (first | (with_reducible exact Below.refl _ _) | apply below_alloc | apply pw_below_drewN | apply below_drew1)) hb; have HY := Aside0.mk (hk); have LX := Aside0.mk (fun s hs => (HX.out.ge s hs).2); have L54 := Aside0.mk (HR.out.lt); have L64 := Aside0.mk (HK.out.lt); have n_ := Aside0.mk (HR.out.below hbb); clear HR; have HR := n_; clear n_; have n_ := Aside0.mk (HK.out.below hbb); clear HK; have HK := n_; clear n_; have n_ := Aside0.mk (HX.out.below hbb); clear HX; have HX := n_; clear n_; have n_ := Aside0.mk (below_step HB.out hbb); clear HB; have HB := n_; clear n_; clear hk; clear hb hbb))
  go_loopw [9] (fun v9 w' => ∃ i : Nat, i ≤ 5 ∧ v9 = .int .i64 i ∧ Aside0 (Below w5.heap.size w5 w')) (fun v9 _ => 5 - (intOf v9).toNat)
  case atStart => exact ⟨0, by omega, rfl, ⟨Below.refl _ _⟩⟩
  case round =>
    obtain ⟨i, hi, rfl, HI⟩ := hrel
    by_cases hlt : i < 5
    · obtain ⟨z, hz⟩ : ∃ z, [x1, x2, x3, x4, x5][i]? = some z := ⟨_, List.getElem?_eq_getElem hlt⟩
      have hzl : z.length ≤ 6000 := Nat.le_trans (HLX.out z (List.mem_of_getElem? hz)) (by omega)
      obtain ⟨s, ad, hs, rfl, hcell, hrow⟩ := ((HX.out.below HI.out).below (below_drew1 (Below.refl _ _))).at_ hz
      obtain ⟨t, ad2, ht, rfl, hcell2, hrow2⟩ := ((HY.out.below HI.out).below (below_drew1 (Below.refl _ _))).at_ hz
      have HW1 := Aside0.mk hrow
      have HW2 := Aside0.mk hrow2
      have n_ := Aside0.mk (below_drew1 HI.out)
      clear HI hrow hrow2 hs ht hz
      have HI := n_
      clear n_
      go_wp2
      refine start_ (n := 10) (S := fun w' => w'.cell? (ad.add i) = some (sv s) ∧ w'.cell? (ad2.add i) = some (sv t)) (ds := []) #[false, false, false, false, false, false, false, false, false, false] (by kernel_rfl) rfl rfl ⟨hcell, hcell2⟩ (fun hHeld => ?_); refine with_tabW twTab10 twBits (fun HT_ HW_ => ?_)
      generalize wr.drew = wp at HI HW1 HW2 hcell hcell2 hHeld ⊢
      refine pure_ (i := 0) (N := some 44) (v := ?_) (a' := ?_) #[true, false, false, false, false, false, false, false, false, false] rfl rfl (any_of HT_.out (by kernel_rfl)) (fun _ _ _ h => h) (Or.inl ⟨by rfl, ?_⟩) ?_ ?_
      rotate_left
      · intro w'
        go_simp
        with_reducible rfl
      rotate_left
      · simp only [Act.put, List.setIfInBounds_toArray, List.set_cons_zero, List.set_cons_succ, i64_w, i32_w]
        rfl
      refine pure_ (i := 1) (N := some 45) (v := ?_) (a' := ?_) #[true, true, false, false, false, false, false, false, false, false] rfl rfl (any_of HT_.out (by kernel_rfl)) (fun _ _ _ h => h) (Or.inl ⟨by rfl, ?_⟩) ?_ ?_
      rotate_left
      · intro w'
        go_simp
        with_reducible rfl
      rotate_left
      · simp only [Act.put, List.setIfInBounds_toArray, List.set_cons_zero, List.set_cons_succ, i64_w, i32_w]
        rfl
      refine pure_ (i := 2) (N := some 46) (v := ?_) (a' := ?_) #[true, true, true, false, false, false, false, false, false, false] rfl rfl (any_of HT_.out (by kernel_rfl)) (fun _ _ _ h => h) (Or.inl ⟨by rfl, ?_⟩) ?_ ?_
      rotate_left
      · intro w'
        go_simp
        with_reducible rfl
      rotate_left
      · simp only [Act.put, List.setIfInBounds_toArray, List.set_cons_zero, List.set_cons_succ, i64_w, i32_w]
        rfl
      refine pure_ (i := 4) (N := some 48) (v := ?_) (a' := ?_) #[true, true, true, false, true, false, false, false, false, false] rfl rfl (any_of HT_.out (by kernel_rfl)) (fun _ _ _ h => h) (Or.inl ⟨by rfl, ?_⟩) ?_ ?_
      rotate_left
      · intro w'
        go_simp
        with_reducible rfl
      rotate_left
      · simp only [Act.put, List.setIfInBounds_toArray, List.set_cons_zero, List.set_cons_succ, i64_w, i32_w]
        rfl
      refine pure_ (i := 5) (N := some 49) (v := ?_) (a' := ?_) #[true, true, true, false, true, true, false, false, false, false] rfl rfl (any_of HT_.out (by kernel_rfl)) (fun _ _ _ h => h) (Or.inl ⟨by rfl, ?_⟩) ?_ ?_
      rotate_left
      · intro w'
        go_simp
        with_reducible rfl
      rotate_left
      · simp only [Act.put, List.setIfInBounds_toArray, List.set_cons_zero, List.set_cons_succ, i64_w, i32_w]
        rfl
      refine pure_ (i := 6) (N := some 50) (v := ?_) (a' := ?_) #[true, true, true, false, true, true, true, false, false, false] rfl rfl (any_of HT_.out (by kernel_rfl)) (fun _ _ _ h => h) (Or.inl ⟨by rfl, ?_⟩) ?_ ?_
      rotate_left
      · intro w'
        go_simp
        with_reducible rfl
      rotate_left
      · simp only [Act.put, List.setIfInBounds_toArray, List.set_cons_zero, List.set_cons_succ, i64_w, i32_w]
        rfl
      refine take_ (i := 3) (N := some 47) (v := ?_) (a' := ?_) #[true, true, true, true, true, true, true, false, false, false] rfl rfl (take_ofW HT_.out HW_.out (by kernel_rfl)) (fun _ _ _ h => h) (Or.inl ⟨by rfl, ?_⟩) hHeld ?_ ?_
      rotate_left
      · rintro w' ⟨s0, s1⟩
        go_simp
        with_reducible rfl
      rotate_left
      · simp only [Act.put, List.setIfInBounds_toArray, List.set_cons_zero, List.set_cons_succ, i64_w, i32_w]
        rfl
      refine take_ (i := 7) (N := some 51) (v := ?_) (a' := ?_) #[true, true, true, true, true, true, true, true, false, false] rfl rfl (take_ofW HT_.out HW_.out (by kernel_rfl)) (fun _ _ _ h => h) (Or.inl ⟨by rfl, ?_⟩) hHeld ?_ ?_
      rotate_left
      · rintro w' ⟨s0, s1⟩
        go_simp
        with_reducible rfl
      rotate_left
      · simp only [Act.put, List.setIfInBounds_toArray, List.set_cons_zero, List.set_cons_succ, i64_w, i32_w]
        rfl
      refine one_ (i := 8) (N := some 52) #[true, true, true, true, true, true, true, true, true, false] rfl rfl (one_of HT_.out (by kernel_rfl)) (by decide) (fun K hK => ?_)
      refine goes_ Try.func26 (by kernel_rfl) rfl #[sv s, sv t] (by rfl) rfl rfl (by (try simp only [List.map_toArray, List.map_cons, List.map_nil]); first | done | rfl) ?_
      refine (same_row k HW1.out HW2.out (HS.out z hzl)).mono ?_
      rintro e wq ⟨rfl, hb⟩
      refine ⟨_, rfl, ?_⟩
      have N1 := Aside0.mk (below_step HI.out hb)
      refine hK.out _ _ ⟨(hb.cell (World.block_lt_of_cell? _ _ hcell)).trans hcell, (hb.cell (World.block_lt_of_cell? _ _ hcell2)).trans hcell2⟩ (fun hHeld => ?_)
      clear hK K
      refine norm_ (a' := ?_) ?_ ?_
      rotate_left
      · show Act.put _ (some 52) _ = _
        simp only [Act.put, List.setIfInBounds_toArray, List.set_cons_zero, List.set_cons_succ, i64_w, i32_w]
        rfl
      refine pure_ (i := 9) (N := some 53) (v := ?_) (a' := ?_) #[true, true, true, true, true, true, true, true, true, true] rfl rfl (any_of HT_.out (by kernel_rfl)) (fun _ _ _ h => h) (Or.inl ⟨by rfl, ?_⟩) ?_ ?_
      rotate_left
      · intro w'
        go_simp
        with_reducible rfl
      rotate_left
      · simp only [Act.put, List.setIfInBounds_toArray, List.set_cons_zero, List.set_cons_succ, i64_w, i32_w]
        rfl
      refine done_ (done_of HT_.out (by kernel_rfl)) ?_
      go_wp2
      go_roundw
      case rel => exact ⟨i + 1, by omega, by go_num, N1⟩
      case measure => simp [intOf]; omega
    · obtain rfl : i = 5 := by omega
      have n_ := Aside0.mk (HX.out.below HI.out); clear HX; have HX := n_; clear n_
      have n_ := Aside0.mk (HY.out.below HI.out); clear HY; have HY := n_; clear n_
      have n_ := Aside0.mk (HR.out.below HI.out); clear HR; have HR := n_; clear n_
      have n_ := Aside0.mk (HK.out.below HI.out); clear HK; have HK := n_; clear n_
      have n_ := Aside0.mk (below_step HB.out HI.out); clear HB; have HB := n_; clear n_
      clear HI
      obtain ⟨w6, rfl⟩ : ∃ w6 : World, w6 = wr := ⟨_, rfl⟩
      have L03 : Aside0 (w.heap.size ≤ w3.heap.size) := ⟨Nat.le_of_lt (Nat.lt_of_le_of_lt HR.out.ge L53.out)⟩
      have L04 : Aside0 (w.heap.size ≤ w4.heap.size) := ⟨Nat.le_of_lt (Nat.lt_of_le_of_lt HR.out.ge L54.out)⟩
      go_wp2_with (first | ((with_reducible refine gate_dst (N := 56) rfl ?_); at_builtin; refine Kd.R_append_rows kS (w0 := w) w.heap.size rfl (.tmp 54) (.tmp 55) 58 22 (.slice none 0 0) 24 rfl Try.underlying58 info22 rfl (by decide) (by decide) (.slice AX 5 cX) sX_ sY_ _ _ _ (fun _ => True) (fun _ => False) rfl rfl ?aO ?aR (fun _ _ h => h) (fun _ h => h.elim) ?aF ?aB ?aS ?aL ?_; (case aR => have h5 : sY_.length = 5 := HY.out.len; have := (Kd.R_reads' HY.out.list).2.2; rw [h5] at this; exact this); (case aB => exact HB.out); (case aF => exact (fun _ _ => trivial)); (case aO => exact Kd.R_lower HX.out.list L03.out); (case aS => exact HB.out.size); (case aL => have h1 : sX_.length = 5 := HX.out.len; omega); intro v56 w7 ho hb hg hat; obtain ⟨A56, c56, e56⟩ := Kd.R_slice ho; have he56 : (sX_ ++ sY_).length = 10 := (by rw [List.length_append]; have h1 : sX_.length = 5 := HX.out.len; have h2 : sY_.length = 5 := HY.out.len; omega); rw [he56] at e56; subst e56; have n1 := Aside0.mk (HR.out.grown hg (row_ne HX.out.list HR.out)); have n2 := Aside0.mk (HK.out.grown hg (row_ne HX.out.list HK.out)); have n3 := Aside0.mk (HX.out.in_.over HX.out.list hg); have n4 := Aside0.mk (HY.out.in_.over HX.out.list hg); have HZ := Aside0.mk ho; clear HR HK HX HY HB; have HR := n1; have HK := n2; have HX := n3; have HY := n4; have HB := Aside0.mk hb; clear n1 n2 n3 n4 hb ho hg hat) | ((with_reducible refine gate_dst (N := 57) rfl ?_); refine goesL_ (some 57) rfl rfl Try.func44 (by kernel_rfl) rfl #[.slice A56 10 c56] rfl (by (try simp only [List.map_toArray, List.map_cons, List.map_nil]); first | done | rfl) ?_; refine (grown_row (w0 := w) HB.out HX.out HY.out HZ.out L03.out L04.out LX.out HLX.out HLX.out (by simp) (by simp)).mono ?_; rintro e w8 ⟨rfl, hb, hkp⟩; refine ⟨_, rfl, ?_⟩; have hq1 := HX.out.ge; have hq2 := HY.out.ge; have n1 := Aside0.mk (HR.out.kept hkp (not_in hq1 hq2 L53.out L54.out)); have n2 := Aside0.mk (HK.out.kept hkp (not_in hq1 hq2 L63.out L64.out)); clear HB HR HK HX HY HZ hq1 hq2; have HR := n1; have HK := n2; have HB := Aside0.mk hb; clear n1 n2 hb hkp) | ((with_reducible refine gate_dst (N := 62) rfl ?_); (refine gate_guard (by rfl) ?_; dsimp only); refine goesL_ (some 62) rfl rfl Try.func26 (by kernel_rfl) rfl #[sv s5, sv s6] rfl (by (try simp only [List.map_toArray, List.map_cons, List.map_nil]); first | done | rfl) ?_; refine (same_row k (HR.out.below (by repeat (first | (with_reducible exact Below.refl _ _) | apply below_alloc | apply pw_below_drewN | apply below_drew1))) (HK.out.below (by repeat (first | (with_reducible exact Below.refl _ _) | apply below_alloc | apply pw_below_drewN | apply below_drew1))) (HS.out rs (by have := HLR.out; omega))).mono ?_; rintro e w9 ⟨rfl, hb⟩; refine ⟨_, rfl, ?_⟩; have hbb : Below w8.heap.size w8 w9 := below_step (by repeat (first | (with_reducible exact Below.refl _ _) | apply below_alloc | apply pw_below_drewN | apply below_drew1)) hb; have n_ := Aside0.mk (HR.out.below hbb); clear HR; have HR := n_; clear n_; have n_ := Aside0.mk (HK.out.below hbb); clear HK; have HK := n_; clear n_; have n_ := Aside0.mk (below_step HB.out hbb); clear HB; have HB := n_; clear n_; clear hb hbb) | ((with_reducible refine gate_dst (N := 66) rfl ?_); refine goesL_ (some 66) rfl rfl Try.func15 (by kernel_rfl) rfl #[sv s5] rfl (by (try simp only [List.map_toArray, List.map_cons, List.map_nil]); first | done | rfl) ?_; refine (text_row k (HR.out.below (by repeat (first | (with_reducible exact Below.refl _ _) | apply below_alloc | apply pw_below_drewN | apply below_drew1))) HT.out).mono ?_; rintro e w10 ⟨rfl, hb⟩; refine ⟨_, rfl, ?_⟩; have hbb : Below w9.heap.size w9 w10 := below_step (by repeat (first | (with_reducible exact Below.refl _ _) | apply below_alloc | apply pw_below_drewN | apply below_drew1)) hb; have n_ := Aside0.mk (HR.out.below hbb); clear HR; have HR := n_; clear n_; have n_ := Aside0.mk (HK.out.below hbb); clear HK; have HK := n_; clear n_; have n_ := Aside0.mk (below_step HB.out hbb); clear HB; have HB := n_; clear n_; clear hb hbb) | ((with_reducible refine gate_dst (N := 68) rfl ?_); refine goesL_ (some 68) rfl rfl Try.func16 (by kernel_rfl) rfl #[sv s5, .int .i64 9, .int .i64 1] rfl (by (try simp only [List.map_toArray, List.map_cons, List.map_nil]); first | done | rfl) ?_; refine (find_row k (HR.out.below (by repeat (first | (with_reducible exact Below.refl _ _) | apply below_alloc | apply pw_below_drewN | apply below_drew1))) HP.out).mono ?_; rintro e w11 ⟨rfl, hb⟩; refine ⟨_, rfl, ?_⟩; have hbb : Below w10.heap.size w10 w11 := below_step (by repeat (first | (with_reducible exact Below.refl _ _) | apply below_alloc | apply pw_below_drewN | apply below_drew1)) hb; have n_ := Aside0.mk (HR.out.below hbb); clear HR; have HR := n_; clear n_; have n_ := Aside0.mk (HK.out.below hbb); clear HK; have HK := n_; clear n_; have n_ := Aside0.mk (below_step HB.out hbb); clear HB; have HB := n_; clear n_; clear hb hbb) | ((with_reducible refine gate_dst (N := 71) rfl ?_); refine goesL_ (some 71) rfl rfl Try.func17 (by kernel_rfl) rfl #[sv s5, sv s6] rfl (by (try simp only [List.map_toArray, List.map_cons, List.map_nil]); first | done | rfl) ?_; refine (equal_row k (HR.out.below (by repeat (first | (with_reducible exact Below.refl _ _) | apply below_alloc | apply pw_below_drewN | apply below_drew1))) (HK.out.below (by repeat (first | (with_reducible exact Below.refl _ _) | apply below_alloc | apply pw_below_drewN | apply below_drew1))) HE.out).mono ?_; rintro e w12 ⟨rfl, hb⟩; refine ⟨_, rfl, ?_⟩; have hbb : Below w11.heap.size w11 w12 := below_step (by repeat (first | (with_reducible exact Below.refl _ _) | apply below_alloc | apply pw_below_drewN | apply below_drew1)) hb; have n_ := Aside0.mk (HR.out.below hbb); clear HR; have HR := n_; clear n_; have n_ := Aside0.mk (HK.out.below hbb); clear HK; have HK := n_; clear n_; have n_ := Aside0.mk (below_step HB.out hbb); clear HB; have HB := n_; clear n_; clear hb hbb) | ((with_reducible refine gate_dst (N := 74) rfl ?_); refine goesL_ (some 74) rfl rfl Try.func43 (by kernel_rfl) rfl #[sv s5, .int .u8 a1] rfl (by (try simp only [List.map_toArray, List.map_cons, List.map_nil]); first | done | rfl) ?_; refine (asked_row k (HR.out.below (by repeat (first | (with_reducible exact Below.refl _ _) | apply below_alloc | apply pw_below_drewN | apply below_drew1))) HA.out).mono ?_; rintro e w13 ⟨AZ, cZ, sZ_, rfl, hk, hb⟩; refine ⟨_, rfl, ?_⟩; have hbb : Below w12.heap.size w12 w13 := below_step (by repeat (first | (with_reducible exact Below.refl _ _) | apply below_alloc | apply pw_below_drewN | apply below_drew1)) hb; have HZ := Aside0.mk (hk); have n_ := Aside0.mk (HR.out.below hbb); clear HR; have HR := n_; clear n_; have n_ := Aside0.mk (HK.out.below hbb); clear HK; have HK := n_; clear n_; have n_ := Aside0.mk (below_step HB.out hbb); clear HB; have HB := n_; clear n_; clear hk; clear hb hbb))
      unfold sv
      go_loopw [13] (fun v13 w' => ∃ i : Nat, i ≤ rs.length ∧ v13 = .int .i64 i ∧ Aside0 (Row w' w.heap.size s5 (mixed rs i)) ∧ Aside0 (Row w' w2.heap.size s6 rs) ∧ Aside0 (Below w.heap.size w w')) (fun v13 _ => rs.length - (intOf v13).toNat)
      case atStart => exact ⟨0, Nat.zero_le _, rfl, ⟨by rw [mixed_zero]; exact HR.out⟩, HK, HB⟩
      case round =>
        have hls := HR.out.len
        clear HR HK HB HZ
        obtain ⟨i, hi, rfl, HR, HK, HB⟩ := hrel
        have hls2 : s5.2.1 ≤ 4001 := by have := HLR.out; omega
        by_cases hlt : i < s5.2.1
        · obtain ⟨x, hx⟩ : ∃ x, (mixed rs i)[i]? = some x := ⟨_, List.getElem?_eq_getElem (by rw [mixed_length (by omega)]; omega)⟩
          obtain ⟨⟨q0, q1, q2⟩, ⟨f0, f1, f2⟩, hput⟩ := HR.out.elem hx
          have HP_ := Aside0.mk (hput (⟨120, 8, (i : Int) + 1⟩ : S24))
          rw [mixed_set (by omega)] at HP_
          have hge := HR.out.ge
          have N1 : Aside0 (Row (put3 wr s5.1 i ⟨120, 8, (i : Int) + 1⟩) w.heap.size s5 (mixed rs (i + 1))) := ⟨HP_.out.1⟩
          have N2 : Aside0 (Row (put3 wr s5.1 i ⟨120, 8, (i : Int) + 1⟩) w2.heap.size s6 rs) := ⟨HK.out.grown HP_.out.2 (fun e => by have h1 : s6.1 = s5.1 := Option.some.inj e; have := L56.out; omega)⟩
          have N3 : Aside0 (Below w.heap.size w (put3 wr s5.1 i ⟨120, 8, (i : Int) + 1⟩)) := ⟨pw_below_grown HB.out _ HB.out.size HP_.out.2 (fun q hq => by injection hq with hq; rw [← hq]; exact hge)⟩
          clear HP_ HR HK HB hput hx
          go_wp2
          go_roundw
          case rel => exact ⟨i + 1, by omega, by go_num, N1, N2, N3⟩
          case measure => simp [intOf]; omega
        · obtain rfl : i = s5.2.1 := by omega
          have n_ : Aside0 (Row wr w.heap.size s5 rx) := ⟨by have h := HR.out; rw [← hls, mixed_all] at h; rw [HRX.out]; exact h⟩
          clear HR
          have HR := n_
          clear n_
          obtain ⟨w14, rfl⟩ : ∃ w14 : World, w14 = wr := ⟨_, rfl⟩
          have HLX2 : Aside0 (0 < rx.length ∧ rx.length ≤ 4001) := ⟨by rw [HRX.out]; simpa using HLR.out⟩
          go_wp2_with (first | ((with_reducible refine gate_dst (N := 88) rfl ?_); refine goesL_ (some 88) rfl rfl Try.func42 (by kernel_rfl) rfl #[sv s5] rfl (by (try simp only [List.map_toArray, List.map_cons, List.map_nil]); first | done | rfl) ?_; refine (copied_row (HR.out.below (by repeat (first | (with_reducible exact Below.refl _ _) | apply below_alloc | apply pw_below_drewN | apply below_drew1))) (by have := HLX2.out; omega) (by have := HLX2.out; omega)).mono ?_; rintro e w15 ⟨s14, rfl, hk, hb⟩; refine ⟨_, rfl, ?_⟩; have hbb : Below w14.heap.size w14 w15 := below_step (by repeat (first | (with_reducible exact Below.refl _ _) | apply below_alloc | apply pw_below_drewN | apply below_drew1)) hb; have HO := Aside0.mk (hk); have n_ := Aside0.mk (HR.out.below hbb); clear HR; have HR := n_; clear n_; have n_ := Aside0.mk (HK.out.below hbb); clear HK; have HK := n_; clear n_; have n_ := Aside0.mk (below_step HB.out hbb); clear HB; have HB := n_; clear n_; clear hk; clear hb hbb) | ((with_reducible refine gate_dst (N := 90) rfl ?_); refine goesL_ (some 90) rfl rfl Try.func15 (by kernel_rfl) rfl #[sv s5] rfl (by (try simp only [List.map_toArray, List.map_cons, List.map_nil]); first | done | rfl) ?_; refine (text_row k (HR.out.below (by repeat (first | (with_reducible exact Below.refl _ _) | apply below_alloc | apply pw_below_drewN | apply below_drew1))) HU.out).mono ?_; rintro e w16 ⟨rfl, hb⟩; refine ⟨_, rfl, ?_⟩; have hbb : Below w15.heap.size w15 w16 := below_step (by repeat (first | (with_reducible exact Below.refl _ _) | apply below_alloc | apply pw_below_drewN | apply below_drew1)) hb; have n_ := Aside0.mk (HR.out.below hbb); clear HR; have HR := n_; clear n_; have n_ := Aside0.mk (HK.out.below hbb); clear HK; have HK := n_; clear n_; have n_ := Aside0.mk (HO.out.below hbb); clear HO; have HO := n_; clear n_; have n_ := Aside0.mk (below_step HB.out hbb); clear HB; have HB := n_; clear n_; clear hb hbb) | ((with_reducible refine gate_dst (N := 92) rfl ?_); refine goesL_ (some 92) rfl rfl Try.func16 (by kernel_rfl) rfl #[sv s5, .int .i64 9, .int .i64 1] rfl (by (try simp only [List.map_toArray, List.map_cons, List.map_nil]); first | done | rfl) ?_; refine (find_row k (HR.out.below (by repeat (first | (with_reducible exact Below.refl _ _) | apply below_alloc | apply pw_below_drewN | apply below_drew1))) HQ.out).mono ?_; rintro e w17 ⟨rfl, hb⟩; refine ⟨_, rfl, ?_⟩; have hbb : Below w16.heap.size w16 w17 := below_step (by repeat (first | (with_reducible exact Below.refl _ _) | apply below_alloc | apply pw_below_drewN | apply below_drew1)) hb; have n_ := Aside0.mk (HR.out.below hbb); clear HR; have HR := n_; clear n_; have n_ := Aside0.mk (HK.out.below hbb); clear HK; have HK := n_; clear n_; have n_ := Aside0.mk (HO.out.below hbb); clear HO; have HO := n_; clear n_; have n_ := Aside0.mk (below_step HB.out hbb); clear HB; have HB := n_; clear n_; clear hb hbb) | ((with_reducible refine gate_dst (N := 95) rfl ?_); refine goesL_ (some 95) rfl rfl Try.func17 (by kernel_rfl) rfl #[sv s5, sv s6] rfl (by (try simp only [List.map_toArray, List.map_cons, List.map_nil]); first | done | rfl) ?_; refine (equal_row k (HR.out.below (by repeat (first | (with_reducible exact Below.refl _ _) | apply below_alloc | apply pw_below_drewN | apply below_drew1))) (HK.out.below (by repeat (first | (with_reducible exact Below.refl _ _) | apply below_alloc | apply pw_below_drewN | apply below_drew1))) HN.out).mono ?_; rintro e w18 ⟨rfl, hb⟩; refine ⟨_, rfl, ?_⟩; have hbb : Below w17.heap.size w17 w18 := below_step (by repeat (first | (with_reducible exact Below.refl _ _) | apply below_alloc | apply pw_below_drewN | apply below_drew1)) hb; have n_ := Aside0.mk (HR.out.below hbb); clear HR; have HR := n_; clear n_; have n_ := Aside0.mk (HK.out.below hbb); clear HK; have HK := n_; clear n_; have n_ := Aside0.mk (HO.out.below hbb); clear HO; have HO := n_; clear n_; have n_ := Aside0.mk (below_step HB.out hbb); clear HB; have HB := n_; clear n_; clear hb hbb) | ((with_reducible refine gate_dst (N := 98) rfl ?_); refine goesL_ (some 98) rfl rfl Try.func43 (by kernel_rfl) rfl #[sv s5, .int .u8 a1] rfl (by (try simp only [List.map_toArray, List.map_cons, List.map_nil]); first | done | rfl) ?_; refine (asked_row k (HR.out.below (by repeat (first | (with_reducible exact Below.refl _ _) | apply below_alloc | apply pw_below_drewN | apply below_drew1))) HY_.out).mono ?_; rintro e w19 ⟨AU, cU, sU_, rfl, hk, hb⟩; refine ⟨_, rfl, ?_⟩; have hbb : Below w18.heap.size w18 w19 := below_step (by repeat (first | (with_reducible exact Below.refl _ _) | apply below_alloc | apply pw_below_drewN | apply below_drew1)) hb; have HU_ := Aside0.mk (hk); have n_ := Aside0.mk (HR.out.below hbb); clear HR; have HR := n_; clear n_; have n_ := Aside0.mk (HK.out.below hbb); clear HK; have HK := n_; clear n_; have n_ := Aside0.mk (HO.out.below hbb); clear HO; have HO := n_; clear n_; have n_ := Aside0.mk (below_step HB.out hbb); clear HB; have HB := n_; clear n_; clear hk; clear hb hbb) | ((with_reducible refine gate_dst (N := 101) rfl ?_); refine goesL_ (some 101) rfl rfl Try.func43 (by kernel_rfl) rfl #[sv s14, .int .u8 a1] rfl (by (try simp only [List.map_toArray, List.map_cons, List.map_nil]); first | done | rfl) ?_; refine (asked_row k (HO.out.below (by repeat (first | (with_reducible exact Below.refl _ _) | apply below_alloc | apply pw_below_drewN | apply below_drew1))) HY_.out).mono ?_; rintro e w20 ⟨AV, cV, sV_, rfl, hk, hb⟩; refine ⟨_, rfl, ?_⟩; have hbb : Below w19.heap.size w19 w20 := below_step (by repeat (first | (with_reducible exact Below.refl _ _) | apply below_alloc | apply pw_below_drewN | apply below_drew1)) hb; have HV := Aside0.mk (hk); have n_ := Aside0.mk (HR.out.below hbb); clear HR; have HR := n_; clear n_; have n_ := Aside0.mk (HK.out.below hbb); clear HK; have HK := n_; clear n_; have n_ := Aside0.mk (HO.out.below hbb); clear HO; have HO := n_; clear n_; have n_ := Aside0.mk (HU_.out.below hbb); clear HU_; have HU_ := n_; clear n_; have n_ := Aside0.mk (below_step HB.out hbb); clear HB; have HB := n_; clear n_; clear hk; clear hb hbb) | ((with_reducible refine gate_dst (N := 113) rfl ?_); (refine gate_guard (by rfl) ?_; dsimp only); refine goesL_ (some 113) rfl rfl Try.func15 (by kernel_rfl) rfl #[sv s6] rfl (by (try simp only [List.map_toArray, List.map_cons, List.map_nil]); first | done | rfl) ?_; refine (text_row k (HK.out.below (by repeat (first | (with_reducible exact Below.refl _ _) | apply below_alloc | apply pw_below_drewN | apply below_drew1))) HT.out).mono ?_; rintro e w21 ⟨rfl, hb⟩; refine ⟨_, rfl, ?_⟩; have hbb : Below w20.heap.size w20 w21 := below_step (by repeat (first | (with_reducible exact Below.refl _ _) | apply below_alloc | apply pw_below_drewN | apply below_drew1)) hb; have n_ := Aside0.mk (HR.out.below hbb); clear HR; have HR := n_; clear n_; have n_ := Aside0.mk (HK.out.below hbb); clear HK; have HK := n_; clear n_; have n_ := Aside0.mk (HO.out.below hbb); clear HO; have HO := n_; clear n_; have n_ := Aside0.mk (HU_.out.below hbb); clear HU_; have HU_ := n_; clear n_; have n_ := Aside0.mk (HV.out.below hbb); clear HV; have HV := n_; clear n_; have n_ := Aside0.mk (below_step HB.out hbb); clear HB; have HB := n_; clear n_; clear hb hbb) | ((with_reducible refine gate_dst (N := 119) rfl ?_); (refine gate_guard (by rfl) ?_; dsimp only); refine goesL_ (some 119) rfl rfl Try.func15 (by kernel_rfl) rfl #[sv s14] rfl (by (try simp only [List.map_toArray, List.map_cons, List.map_nil]); first | done | rfl) ?_; refine (text_row k (HO.out.below (by repeat (first | (with_reducible exact Below.refl _ _) | apply below_alloc | apply pw_below_drewN | apply below_drew1))) HU.out).mono ?_; rintro e w22 ⟨rfl, hb⟩; refine ⟨_, rfl, ?_⟩; have hbb : Below w21.heap.size w21 w22 := below_step (by repeat (first | (with_reducible exact Below.refl _ _) | apply below_alloc | apply pw_below_drewN | apply below_drew1)) hb; have n_ := Aside0.mk (HR.out.below hbb); clear HR; have HR := n_; clear n_; have n_ := Aside0.mk (HK.out.below hbb); clear HK; have HK := n_; clear n_; have n_ := Aside0.mk (HO.out.below hbb); clear HO; have HO := n_; clear n_; have n_ := Aside0.mk (HU_.out.below hbb); clear HU_; have HU_ := n_; clear n_; have n_ := Aside0.mk (HV.out.below hbb); clear HV; have HV := n_; clear n_; have n_ := Aside0.mk (below_step HB.out hbb); clear HB; have HB := n_; clear n_; clear hb hbb) | ((with_reducible refine gate_dst (N := 125) rfl ?_); (refine gate_guard (by rfl) ?_; dsimp only); refine goesL_ (some 125) rfl rfl Try.func16 (by kernel_rfl) rfl #[sv s6, .int .i64 9, .int .i64 1] rfl (by (try simp only [List.map_toArray, List.map_cons, List.map_nil]); first | done | rfl) ?_; refine (find_row k (HK.out.below (by repeat (first | (with_reducible exact Below.refl _ _) | apply below_alloc | apply pw_below_drewN | apply below_drew1))) HP.out).mono ?_; rintro e w23 ⟨rfl, hb⟩; refine ⟨_, rfl, ?_⟩; have hbb : Below w22.heap.size w22 w23 := below_step (by repeat (first | (with_reducible exact Below.refl _ _) | apply below_alloc | apply pw_below_drewN | apply below_drew1)) hb; have n_ := Aside0.mk (HR.out.below hbb); clear HR; have HR := n_; clear n_; have n_ := Aside0.mk (HK.out.below hbb); clear HK; have HK := n_; clear n_; have n_ := Aside0.mk (HO.out.below hbb); clear HO; have HO := n_; clear n_; have n_ := Aside0.mk (HU_.out.below hbb); clear HU_; have HU_ := n_; clear n_; have n_ := Aside0.mk (HV.out.below hbb); clear HV; have HV := n_; clear n_; have n_ := Aside0.mk (below_step HB.out hbb); clear HB; have HB := n_; clear n_; clear hb hbb))
          go_loopw [18] (fun v9 w' => ∃ i : Nat, i ≤ 5 ∧ v9 = .int .i64 i ∧ Aside0 (Below w23.heap.size w23 w')) (fun v9 _ => 5 - (intOf v9).toNat)
          case atStart => exact ⟨0, by omega, rfl, ⟨Below.refl _ _⟩⟩
          case round =>
            obtain ⟨i, hi, rfl, HI⟩ := hrel
            by_cases hlt : i < 5
            · obtain ⟨z, hz⟩ : ∃ z, [y1, y2, y3, y4, y5][i]? = some z := ⟨_, List.getElem?_eq_getElem hlt⟩
              have hzl : z.length ≤ 6000 := Nat.le_trans (HLY.out z (List.mem_of_getElem? hz)) (by omega)
              obtain ⟨s, ad, hs, rfl, hcell, hrow⟩ := ((HU_.out.below HI.out).below (below_drew1 (Below.refl _ _))).at_ hz
              obtain ⟨t, ad2, ht, rfl, hcell2, hrow2⟩ := ((HV.out.below HI.out).below (below_drew1 (Below.refl _ _))).at_ hz
              have HW1 := Aside0.mk hrow
              have HW2 := Aside0.mk hrow2
              have n_ := Aside0.mk (below_drew1 HI.out)
              clear HI hrow hrow2 hs ht hz
              have HI := n_
              clear n_
              go_wp2
              refine start_ (n := 10) (S := fun w' => w'.cell? (ad.add i) = some (sv s) ∧ w'.cell? (ad2.add i) = some (sv t)) (ds := []) #[false, false, false, false, false, false, false, false, false, false] (by kernel_rfl) rfl rfl ⟨hcell, hcell2⟩ (fun hHeld => ?_); refine with_tabW twTab33 twBits (fun HT_ HW_ => ?_)
              generalize wr.drew = wp at HI HW1 HW2 hcell hcell2 hHeld ⊢
              refine pure_ (i := 0) (N := some 143) (v := ?_) (a' := ?_) #[true, false, false, false, false, false, false, false, false, false] rfl rfl (any_of HT_.out (by kernel_rfl)) (fun _ _ _ h => h) (Or.inl ⟨by rfl, ?_⟩) ?_ ?_
              rotate_left
              · intro w'
                go_simp
                with_reducible rfl
              rotate_left
              · simp only [Act.put, List.setIfInBounds_toArray, List.set_cons_zero, List.set_cons_succ, i64_w, i32_w]
                rfl
              refine pure_ (i := 1) (N := some 144) (v := ?_) (a' := ?_) #[true, true, false, false, false, false, false, false, false, false] rfl rfl (any_of HT_.out (by kernel_rfl)) (fun _ _ _ h => h) (Or.inl ⟨by rfl, ?_⟩) ?_ ?_
              rotate_left
              · intro w'
                go_simp
                with_reducible rfl
              rotate_left
              · simp only [Act.put, List.setIfInBounds_toArray, List.set_cons_zero, List.set_cons_succ, i64_w, i32_w]
                rfl
              refine pure_ (i := 2) (N := some 145) (v := ?_) (a' := ?_) #[true, true, true, false, false, false, false, false, false, false] rfl rfl (any_of HT_.out (by kernel_rfl)) (fun _ _ _ h => h) (Or.inl ⟨by rfl, ?_⟩) ?_ ?_
              rotate_left
              · intro w'
                go_simp
                with_reducible rfl
              rotate_left
              · simp only [Act.put, List.setIfInBounds_toArray, List.set_cons_zero, List.set_cons_succ, i64_w, i32_w]
                rfl
              refine pure_ (i := 4) (N := some 147) (v := ?_) (a' := ?_) #[true, true, true, false, true, false, false, false, false, false] rfl rfl (any_of HT_.out (by kernel_rfl)) (fun _ _ _ h => h) (Or.inl ⟨by rfl, ?_⟩) ?_ ?_
              rotate_left
              · intro w'
                go_simp
                with_reducible rfl
              rotate_left
              · simp only [Act.put, List.setIfInBounds_toArray, List.set_cons_zero, List.set_cons_succ, i64_w, i32_w]
                rfl
              refine pure_ (i := 5) (N := some 148) (v := ?_) (a' := ?_) #[true, true, true, false, true, true, false, false, false, false] rfl rfl (any_of HT_.out (by kernel_rfl)) (fun _ _ _ h => h) (Or.inl ⟨by rfl, ?_⟩) ?_ ?_
              rotate_left
              · intro w'
                go_simp
                with_reducible rfl
              rotate_left
              · simp only [Act.put, List.setIfInBounds_toArray, List.set_cons_zero, List.set_cons_succ, i64_w, i32_w]
                rfl
              refine pure_ (i := 6) (N := some 149) (v := ?_) (a' := ?_) #[true, true, true, false, true, true, true, false, false, false] rfl rfl (any_of HT_.out (by kernel_rfl)) (fun _ _ _ h => h) (Or.inl ⟨by rfl, ?_⟩) ?_ ?_
              rotate_left
              · intro w'
                go_simp
                with_reducible rfl
              rotate_left
              · simp only [Act.put, List.setIfInBounds_toArray, List.set_cons_zero, List.set_cons_succ, i64_w, i32_w]
                rfl
              refine take_ (i := 3) (N := some 146) (v := ?_) (a' := ?_) #[true, true, true, true, true, true, true, false, false, false] rfl rfl (take_ofW HT_.out HW_.out (by kernel_rfl)) (fun _ _ _ h => h) (Or.inl ⟨by rfl, ?_⟩) hHeld ?_ ?_
              rotate_left
              · rintro w' ⟨s0, s1⟩
                go_simp
                with_reducible rfl
              rotate_left
              · simp only [Act.put, List.setIfInBounds_toArray, List.set_cons_zero, List.set_cons_succ, i64_w, i32_w]
                rfl
              refine take_ (i := 7) (N := some 150) (v := ?_) (a' := ?_) #[true, true, true, true, true, true, true, true, false, false] rfl rfl (take_ofW HT_.out HW_.out (by kernel_rfl)) (fun _ _ _ h => h) (Or.inl ⟨by rfl, ?_⟩) hHeld ?_ ?_
              rotate_left
              · rintro w' ⟨s0, s1⟩
                go_simp
                with_reducible rfl
              rotate_left
              · simp only [Act.put, List.setIfInBounds_toArray, List.set_cons_zero, List.set_cons_succ, i64_w, i32_w]
                rfl
              refine one_ (i := 8) (N := some 151) #[true, true, true, true, true, true, true, true, true, false] rfl rfl (one_of HT_.out (by kernel_rfl)) (by decide) (fun K hK => ?_)
              refine goes_ Try.func26 (by kernel_rfl) rfl #[sv s, sv t] (by rfl) rfl rfl (by (try simp only [List.map_toArray, List.map_cons, List.map_nil]); first | done | rfl) ?_
              refine (same_row k HW1.out HW2.out (HS.out z hzl)).mono ?_
              rintro e wq ⟨rfl, hb⟩
              refine ⟨_, rfl, ?_⟩
              have N1 := Aside0.mk (below_step HI.out hb)
              refine hK.out _ _ ⟨(hb.cell (World.block_lt_of_cell? _ _ hcell)).trans hcell, (hb.cell (World.block_lt_of_cell? _ _ hcell2)).trans hcell2⟩ (fun hHeld => ?_)
              clear hK K
              refine norm_ (a' := ?_) ?_ ?_
              rotate_left
              · show Act.put _ (some 151) _ = _
                simp only [Act.put, List.setIfInBounds_toArray, List.set_cons_zero, List.set_cons_succ, i64_w, i32_w]
                rfl
              refine pure_ (i := 9) (N := some 152) (v := ?_) (a' := ?_) #[true, true, true, true, true, true, true, true, true, true] rfl rfl (any_of HT_.out (by kernel_rfl)) (fun _ _ _ h => h) (Or.inl ⟨by rfl, ?_⟩) ?_ ?_
              rotate_left
              · intro w'
                go_simp
                with_reducible rfl
              rotate_left
              · simp only [Act.put, List.setIfInBounds_toArray, List.set_cons_zero, List.set_cons_succ, i64_w, i32_w]
                rfl
              refine done_ (done_of HT_.out (by kernel_rfl)) ?_
              go_wp2
              go_roundw
              case rel => exact ⟨i + 1, by omega, by go_num, N1⟩
              case measure => simp [intOf]; omega
            · obtain rfl : i = 5 := by omega
              have n_ := Aside0.mk (HR.out.below HI.out); clear HR; have HR := n_; clear n_
              have n_ := Aside0.mk (below_step HB.out HI.out); clear HB; have HB := n_; clear n_
              clear HI
              obtain ⟨w24, rfl⟩ : ∃ w24 : World, w24 = wr := ⟨_, rfl⟩
              go_wp2
              go_ret
              exact ⟨rfl, HB.out⟩
end Go.Proofs.Ytjdhoipaanlipaa.G
