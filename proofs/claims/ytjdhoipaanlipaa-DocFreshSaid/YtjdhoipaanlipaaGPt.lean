/- apart: the walk. Written by a program of this session (mkapart.py). -/
import Derived.Test.YtjdhoipaanlipaaGH
namespace Go.Proofs.Ytjdhoipaanlipaa.G
open Go.RowKit Go.Proofs.Ytjdhoipaanlipaa.Q Go.Proofs.YtjdhoipaanlipaaW.PrintWords Go.Proofs.YtjdhoipaanlipaaW.PrintLast Go.Proofs.YtjdhoipaanlipaaW.PrintMore
set_option linter.unusedVariables false
set_option linter.unusedSimpArgs false
def ptT5 : Bool × List (List Nat × List Nat) := (true, [([], []), ([], []), ([0, 1], [0, 1]), ([], []), ([], []), ([3, 4], [3, 4]), ([5], [5]), ([2, 6], [2, 6]), ([7], [7]), ([8], [8]), ([8], [8]), ([9, 7, 0, 1, 2, 3, 4, 5, 6, 7, 8, 9], [9]), ([10, 11, 0, 1, 2, 3, 4, 5, 6, 7, 8, 9, 10, 11], [10])])
def ptB5 : List Nat := [0, 0, 3, 0, 0, 24, 56, 127, 255, 511, 511, 1023, 4095]
theorem ptTab5 : rtab .any (opsOf Try.f35 5) = ptT5 := by kernel_rfl
theorem ptBits5 : waitsOk ptT5.2 ptB5 = true := by kernel_rfl
def ptT17 : Bool × List (List Nat × List Nat) := (true, [([], []), ([], []), ([0, 1], [0, 1]), ([2], [2]), ([], []), ([4], [4]), ([3, 5], [3, 5]), ([6], [6]), ([7, 6], [7]), ([8], [8]), ([8], [8]), ([9, 10, 8], [8, 9, 10]), ([11, 8], [8, 11]), ([8], [8]), ([8], [8]), ([13, 14, 8], [8, 13, 14]), ([15, 8], [8, 15]), ([16, 8], [8, 16]), ([12, 17, 8], [8, 12, 17]), ([18, 8], [8, 18]), ([19, 8], [8, 19]), ([8], [8]), ([21, 8], [8, 21]), ([20, 22, 8], [8, 20, 22]), ([8, 23], [8, 23])])
def ptB17 : List Nat := [0, 0, 3, 7, 0, 16, 63, 127, 255, 511, 511, 2047, 4095, 511, 511, 25087, 57855, 123391, 262143, 524287, 1048575, 511, 2097663, 8388607, 16777215]
theorem ptTab17 : rtab .any (opsOf Try.f35 17) = ptT17 := by kernel_rfl
theorem ptBits17 : waitsOk ptT17.2 ptB17 = true := by kernel_rfl
def gl (j : Nat) : List S24 := [⟨0, 1 + (j : Int), 0⟩]
theorem list_step {W W1 : World} {base b' : Nat} {ok : Nat → Prop} {v : Value} {gs : List SV} {t t' : SV} {xs : List S24} (h : Kd.R kS 22 W base ok v gs) (r : Row W b' t xs) (hg : (t'.1 = t.1 ∧ W.grownBy W1 (some t.1)) ∨ (W.heap.size ≤ t'.1 ∧ Below W.heap.size W W1)) : Kd.R kS 22 W1 base ok v gs := by
  rcases hg with ⟨_, hg⟩ | ⟨_, hb⟩
  · exact Kd.R_over' (v := sv t) (e' := 24) h (Kd.R_typed r) (by decide) hg
  · exact Kd.R_below h hb
theorem size_step2 {W W1 : World} {t t' : SV} (hg : (t'.1 = t.1 ∧ W.grownBy W1 (some t.1)) ∨ (W.heap.size ≤ t'.1 ∧ Below W.heap.size W W1)) : W.heap.size ≤ W1.heap.size := by
  rcases hg with ⟨_, hg⟩ | ⟨_, hb⟩
  · exact (Kept.of_grown (S := fun _ => True) hg (Kept.refl _ _) (fun _ _ => .inl trivial)).1
  · exact hb.size
theorem list_reads {W : World} {b n c : Nat} {ok : Nat → Prop} {A : Option Addr} {ss : List SV} (h : Kd.R kS 22 W b ok (.slice A n c) ss) : Kd.C kS W A ss.length ss := by
  have h2 := Kd.R_reads' h
  have e : n = ss.length := h2.1
  rw [e] at h2
  exact h2.2.2
theorem list_kept {W W' : World} {b b' : Nat} {ok : Nat → Prop} {v : Value} {ss : List SV} {s : SV} {xs : List S24} (h : Kd.R kS 22 W b ok v ss) (r : Row W b' s xs) (hk : Kept W W' (fun q => q = s.1)) : Kd.R kS 22 W' b ok v ss :=
  Kd.R_mono (Kd.R_kept (Kd.R_tight rfl h) hk (fun q hq e => row_ne h r (by rw [← e]; exact hq))) (fun q hq => h.1 q hq.symm)
theorem range_push {W : World} {b i : Nat} {ss : List SV} {s : SV} (fl : Nat → List S24) (hi : ss.length = i) (h : RowsIn W b (ss ++ [s]) ((List.range i).map fl ++ [fl i])) : RowsIn W b (ss ++ [s]) ((List.range (i + 1)).map fl) := by
  rw [List.range_succ, List.map_append]
  exact h
theorem C30_at {w : World} {A : Option Addr} {n k : Nat} {xs : List S30} {x : S30} (h : Kd.C k30 w A n xs) (hx : xs[k]? = some x) : ∃ ad, A = some ad ∧ w.cell? (ad.add (k * 5)) = some (.int .i64 x.f0) ∧ w.cell? ⟨(ad.add (k * 5)).block, (ad.add (k * 5)).off + 1, none⟩ = some (.int .i64 x.f1) ∧ w.cell? ⟨(ad.add (k * 5)).block, (ad.add (k * 5)).off + 2, none⟩ = some (.int .u8 x.f2) ∧ w.cell? ⟨(ad.add (k * 5)).block, (ad.add (k * 5)).off + 3, none⟩ = some (.int .i64 x.f3) ∧ w.cell? ⟨(ad.add (k * 5)).block, (ad.add (k * 5)).off + 4, none⟩ = some (.int .i64 x.f4) := by
  have hk : k < xs.length := (List.getElem?_eq_some_iff.1 hx).1
  have hn := h.1
  obtain ⟨ad, e, h0, h1, h2, h3, h4⟩ := at_T30 h (k : Int) (by omega) (by omega)
  have ex : rd_T30 xs (k : Int) = x := by rw [P.rd30, P.getD_at _ _ _ hk]; rw [List.getElem?_eq_getElem hk] at hx; exact Option.some.inj hx
  rw [ex, Int.toNat_natCast] at h0 h1 h2 h3 h4
  exact ⟨ad, e, h0, h1, h2, h3, h4⟩
set_option maxHeartbeats 8000000 in
set_option maxRecDepth 100000 in
theorem apart_calls (k : Nat) (w : World) {r kp : SV} {b1 b2 : Nat} {rs : List S24} (n : Nat) (A3 : Option Addr) (c3 : Nat) (ops : List S30) (outs : List (List S24)) (fl : Nat → List S24)
    (h1 : Row w b1 r rs) (h2 : Row w b2 kp rs) (hn : n ≤ rs.length) (hop : Kd.C k30 w A3 ops.length ops) (hc : ops.length ≤ c3) (hol : outs.length = ops.length) (h1000 : ops.length ≤ 1000) (hrl : rs.length ≤ 5000)
    (hap : ∀ (i : Nat) (o : S30) (x : List S24), ops[i]? = some o → outs[i]? = some x → doc_Apply.f k (rs.take n) o.f0 o.f1 o.f2 o.f3 o.f4 = some (x, 0))
    (hfi : ∀ (i : Nat) (x : List S24), outs[i]? = some x → jotterlaw04_fill.f k x (210 + (i : Int)) = some (fl i)) (hfu : ∀ i, i < ops.length → jotterlaw04_full.f k (fl i) (210 + (i : Int)) = some true) (hfl : ∀ i, i < ops.length → (fl i).length ≤ 5000)
    (hsm : jotterlaw04_same.f k rs rs = some true) :
    Calls Try.prog 35 #[sv r, sv kp, .int .i64 n, .slice A3 ops.length c3] w fun e w' => e = .returned (.bool true) ∧ Below w.heap.size w w' := by
  have hu24 := Try.underlying24
  have hu30 := Try.underlying30
  have HR := Aside0.mk h1
  have HKp := Aside0.mk h2
  have HN := Aside0.mk hn
  have HOP := Aside0.mk hop
  have HC3 := Aside0.mk hc
  have HOL := Aside0.mk hol
  have HA := Aside0.mk hap
  have HF := Aside0.mk hfi
  have HFu := Aside0.mk hfu
  have HFl := Aside0.mk hfl
  have HS := Aside0.mk hsm
  have HRl := Aside0.mk hrl
  clear h1 h2 hn hop hc hol hap hfi hfu hfl hsm hrl
  unfold sv
  go_enter Try.func35, Try.ntmps35
  go_wp2
  go_loopw [9, 11] (fun v9 v11 w' => ∃ (i : Nat) (ls : List SV), i ≤ ops.length ∧ v11 = .int .i64 i ∧ Aside0 (ls.length = i) ∧ Aside0 (Kd.R kS 22 w' w.heap.size (fun _ => True) v9 ls) ∧ Aside0 (RowsIn w' w.heap.size ls ((List.range i).map fl)) ∧ Aside0 (Below w.heap.size w w')) (fun _ v11 _ => ops.length - (intOf v11).toNat)
  case atStart => exact ⟨0, [], Nat.zero_le _, rfl, ⟨rfl⟩, ⟨Kd.R_nil _ _ _ _ _⟩, ⟨RowsIn.nil _ _⟩, ⟨Below.refl _ _⟩⟩
  case round =>
    obtain ⟨i, ls, hi, rfl, HLN, HL, HI, HB⟩ := hrel
    by_cases hlt : i < ops.length
    · obtain ⟨o, ho⟩ : ∃ o, ops[i]? = some o := ⟨_, List.getElem?_eq_getElem hlt⟩
      obtain ⟨x, hx⟩ : ∃ x, outs[i]? = some x := ⟨_, List.getElem?_eq_getElem (by have := HOL.out; omega)⟩
      obtain ⟨rt, hrt0⟩ : ∃ rt, rt = rs.take n := ⟨_, rfl⟩
      have HAP := Aside0.mk (HA.out i o x ho hx)
      rw [← hrt0] at HAP
      have HFI := Aside0.mk (HF.out i x hx)
      obtain ⟨ad, rfl, z0, z1, z2, z3, z4⟩ := C30_at (Kd.C_below HOP.out (below_drew1 HB.out)) ho
      have hrt : Kd.C k24 wr.drew (some ⟨r.1, 0, none⟩) rt.length rt := by rw [hrt0]; exact Kd.C_below (Kd.C_take HR.out.reads HN.out) (below_drew1 HB.out)
      have hct : rt.length ≤ r.2.2 := by have := HR.out.capl; rw [hrt0, List.length_take]; omega
      have hnn : ((n : Int)).toNat = rt.length := by have := HN.out; rw [hrt0, List.length_take]; omega
      have hnl : n ≤ r.2.1 := by have h1 := HN.out; have h2 := HR.out.len; omega
      obtain ⟨i0, hi0, _, hsz, _⟩ := info_parts info24
      have hcut := cut_to (P := Try.prog) 22 24 .i64 Try.underlying22 hi0 (some ⟨r.1, 0, none⟩) r.2.1 r.2.2 (n : Int) (by omega) (by omega) HR.out.cap
      rw [hnn] at hcut
      clear hnn
      have n1 := Aside0.mk (Kd.R_below HL.out (below_drew1 (Below.refl _ _)))
      have n2 := Aside0.mk (HI.out.below (below_drew1 (Below.refl _ _)))
      have n3 := Aside0.mk (below_drew1 HB.out)
      clear HL HI HB
      have HL := n1
      have HI := n2
      have HB := n3
      clear n1 n2 n3 ho hx hi0 hsz hrt0
      go_wp2
      refine start_ (n := 13) (S := fun w' => w'.cell? (ad.add (i * 5)) = some (.int .i64 o.f0) ∧ w'.cell? ⟨(ad.add (i * 5)).block, (ad.add (i * 5)).off + 1, none⟩ = some (.int .i64 o.f1) ∧ w'.cell? ⟨(ad.add (i * 5)).block, (ad.add (i * 5)).off + 2, none⟩ = some (.int .u8 o.f2) ∧ w'.cell? ⟨(ad.add (i * 5)).block, (ad.add (i * 5)).off + 3, none⟩ = some (.int .i64 o.f3) ∧ w'.cell? ⟨(ad.add (i * 5)).block, (ad.add (i * 5)).off + 4, none⟩ = some (.int .i64 o.f4)) (ds := []) #[false, false, false, false, false, false, false, false, false, false, false, false, false] (by kernel_rfl) rfl rfl ⟨z0, z1, z2, z3, z4⟩ (fun hHeld => ?_); refine with_tabW ptTab5 ptBits5 (fun HT_ HW_ => ?_)
      generalize wr.drew = wp at HB HL HI hrt z0 z1 z2 z3 z4 hHeld ⊢
      refine pure_ (i := 0) (N := some 23) (v := ?_) (a' := ?_) #[true, false, false, false, false, false, false, false, false, false, false, false, false] rfl rfl (any_of HT_.out (by kernel_rfl)) (fun _ _ _ h => h) (Or.inl ⟨by rfl, ?_⟩) ?_ ?_
      rotate_left
      · intro w'
        go_simp
        with_reducible rfl
      rotate_left
      · simp only [Act.put, List.setIfInBounds_toArray, List.set_cons_zero, List.set_cons_succ, i64_w, i32_w]
        rfl
      refine pure_ (i := 1) (N := some 24) (v := ?_) (a' := ?_) #[true, true, false, false, false, false, false, false, false, false, false, false, false] rfl rfl (any_of HT_.out (by kernel_rfl)) (fun _ _ _ h => h) (Or.inl ⟨by rfl, ?_⟩) ?_ ?_
      rotate_left
      · intro w'
        go_simp
        with_reducible rfl
      rotate_left
      · simp only [Act.put, List.setIfInBounds_toArray, List.set_cons_zero, List.set_cons_succ, i64_w, i32_w]
        rfl
      refine pure_ (i := 2) (N := some 25) (v := ?_) (a' := ?_) #[true, true, true, false, false, false, false, false, false, false, false, false, false] rfl rfl (any_of HT_.out (by kernel_rfl)) (fun _ _ _ h => h) (Or.inl ⟨by rfl, ?_⟩) ?_ ?_
      rotate_left
      · intro w'
        go_simp
        with_reducible rfl
      rotate_left
      · simp only [Act.put, List.setIfInBounds_toArray, List.set_cons_zero, List.set_cons_succ, i64_w, i32_w]
        rfl
      refine pure_ (i := 3) (N := some 26) (v := ?_) (a' := ?_) #[true, true, true, true, false, false, false, false, false, false, false, false, false] rfl rfl (any_of HT_.out (by kernel_rfl)) (fun _ _ _ h => h) (Or.inl ⟨by rfl, ?_⟩) ?_ ?_
      rotate_left
      · intro w'
        go_simp
        with_reducible rfl
      rotate_left
      · simp only [Act.put, List.setIfInBounds_toArray, List.set_cons_zero, List.set_cons_succ, i64_w, i32_w]
        rfl
      refine pure_ (i := 4) (N := some 27) (v := ?_) (a' := ?_) #[true, true, true, true, true, false, false, false, false, false, false, false, false] rfl rfl (any_of HT_.out (by kernel_rfl)) (fun _ _ _ h => h) (Or.inl ⟨by rfl, ?_⟩) ?_ ?_
      rotate_left
      · intro w'
        go_simp
        with_reducible rfl
      rotate_left
      · simp only [Act.put, List.setIfInBounds_toArray, List.set_cons_zero, List.set_cons_succ, i64_w, i32_w]
        rfl
      refine pure_ (i := 5) (N := some 28) (v := ?_) (a' := ?_) #[true, true, true, true, true, true, false, false, false, false, false, false, false] rfl rfl (any_of HT_.out (by kernel_rfl)) (fun _ _ _ h => h) (Or.inl ⟨by rfl, ?_⟩) ?_ ?_
      rotate_left
      · intro w'
        go_simp
        with_reducible rfl
      rotate_left
      · simp only [Act.put, List.setIfInBounds_toArray, List.set_cons_zero, List.set_cons_succ, i64_w, i32_w]
        rfl
      refine take_ (i := 6) (N := some 29) (v := ?_) (a' := ?_) #[true, true, true, true, true, true, true, false, false, false, false, false, false] rfl rfl (take_ofW HT_.out HW_.out (by kernel_rfl)) (fun _ _ _ h => h) (Or.inl ⟨by rfl, ?_⟩) hHeld ?_ ?_
      rotate_left
      · rintro w' ⟨s0, s1, s2, s3, s4⟩
        go_simp
        with_reducible rfl
      rotate_left
      · simp only [Act.put, List.setIfInBounds_toArray, List.set_cons_zero, List.set_cons_succ, i64_w, i32_w]
        rfl
      refine one_ (i := 7) (N := some 30) #[true, true, true, true, true, true, true, true, false, false, false, false, false] rfl rfl (one_of HT_.out (by kernel_rfl)) (by decide) (fun K hK => ?_)
      refine goes_ Try.func25 (by kernel_rfl) rfl #[.slice (some ⟨r.1, 0, none⟩) rt.length r.2.2, .agg #[.int .i64 o.f0, .int .i64 o.f1, .int .u8 o.f2, .int .i64 o.f3, .int .i64 o.f4]] (by rfl) rfl rfl (by (try simp only [List.map_toArray, List.map_cons, List.map_nil]); first | done | rfl) ?_
      refine (doc_Apply.callsB k _ _ rt o.f0 o.f1 o.f2 o.f3 o.f4 x 0 _ hrt hct HAP.out).mono ?_
      rintro e wq ⟨vx, rfl, ho0, hb, hob⟩
      refine ⟨_, rfl, ?_⟩
      obtain ⟨s, hs_, hro⟩ := Row.ofB ho0 (hob rfl)
      subst hs_
      have N1 := Aside0.mk (Kd.R_below HL.out hb)
      have N2 := Aside0.mk (HI.out.below hb)
      have N3 := Aside0.mk (below_step HB.out hb)
      have N4 := Aside0.mk (hro.lower HB.out.size)
      have N5 : Aside0 (∀ t ∈ ls, t.1 ≠ s.1) := ⟨fun t ht e => by have h1 := (HI.out.ge t ht).2; have h2 := hro.ge; omega⟩
      clear HL HI HB ho0 hob hro
      have HL := N1
      have HI := N2
      have HB := N3
      clear N1 N2 N3
      refine hK.out _ _ ⟨(hb.cell (World.block_lt_of_cell? _ _ z0)).trans z0, (hb.cell (World.block_lt_of_cell? _ _ z1)).trans z1, (hb.cell (World.block_lt_of_cell? _ _ z2)).trans z2, (hb.cell (World.block_lt_of_cell? _ _ z3)).trans z3, (hb.cell (World.block_lt_of_cell? _ _ z4)).trans z4⟩ (fun hHeld => ?_)
      clear hK K
      refine norm_ (a' := ?_) ?_ ?_
      rotate_left
      · show Act.put _ (some 30) _ = _
        simp only [Act.put, List.setIfInBounds_toArray, List.set_cons_zero, List.set_cons_succ, i64_w, i32_w]
        rfl
      refine pure_ (i := 8) (N := some 22) (v := ?_) (a' := ?_) #[true, true, true, true, true, true, true, true, true, false, false, false, false] rfl rfl (any_of HT_.out (by kernel_rfl)) (fun _ _ _ h => h) (Or.inl ⟨by rfl, ?_⟩) ?_ ?_
      rotate_left
      · intro w'
        go_simp
        with_reducible rfl
      rotate_left
      · simp only [Act.put, List.setIfInBounds_toArray, List.set_cons_zero, List.set_cons_succ, i64_w, i32_w]
        rfl
      refine pure_ (i := 9) (N := some 31) (v := ?_) (a' := ?_) #[true, true, true, true, true, true, true, true, true, true, false, false, false] rfl rfl (any_of HT_.out (by kernel_rfl)) (fun _ _ _ h => h) (Or.inl ⟨by rfl, ?_⟩) ?_ ?_
      rotate_left
      · intro w'
        go_simp
        with_reducible rfl
      rotate_left
      · simp only [Act.put, List.setIfInBounds_toArray, List.set_cons_zero, List.set_cons_succ, i64_w, i32_w]
        rfl
      refine pure_ (i := 10) (N := some 32) (v := ?_) (a' := ?_) #[true, true, true, true, true, true, true, true, true, true, true, false, false] rfl rfl (any_of HT_.out (by kernel_rfl)) (fun _ _ _ h => h) (Or.inl ⟨by rfl, ?_⟩) ?_ ?_
      rotate_left
      · intro w'
        go_simp
        with_reducible rfl
      rotate_left
      · simp only [Act.put, List.setIfInBounds_toArray, List.set_cons_zero, List.set_cons_succ, i64_w, i32_w]
        rfl
      refine pure_ (i := 11) (N := some 12) (v := ?_) (a' := ?_) #[true, true, true, true, true, true, true, true, true, true, true, true, false] rfl rfl (any_of HT_.out (by kernel_rfl)) (fun _ _ _ h => h) (Or.inl ⟨by rfl, ?_⟩) ?_ ?_
      rotate_left
      · intro w'
        go_simp
        with_reducible rfl
      rotate_left
      · simp only [Act.put, List.setIfInBounds_toArray, List.set_cons_zero, List.set_cons_succ, i64_w, i32_w]
        rfl
      refine pure_ (i := 12) (N := some 13) (v := ?_) (a' := ?_) #[true, true, true, true, true, true, true, true, true, true, true, true, true] rfl rfl (any_of HT_.out (by kernel_rfl)) (fun _ _ _ h => h) (Or.inl ⟨by rfl, ?_⟩) ?_ ?_
      rotate_left
      · intro w'
        go_simp
        with_reducible rfl
      rotate_left
      · simp only [Act.put, List.setIfInBounds_toArray, List.set_cons_zero, List.set_cons_succ, i64_w, i32_w]
        rfl
      refine done_ (done_of HT_.out (by kernel_rfl)) ?_
      go_wp2_with (first | ((with_reducible refine gate_dst (N := 38) rfl ?_); (refine gate_guard (by rfl) ?_; dsimp only); refine goesL_ (some 38) rfl rfl Try.func26 (by kernel_rfl) rfl #[sv r, sv kp] rfl (by (try simp only [List.map_toArray, List.map_cons, List.map_nil]); first | done | rfl) ?_; refine (same_row k (HR.out.below HB.out) (HKp.out.below HB.out) HS.out).mono ?_; rintro e wa ⟨rfl, hb⟩; refine ⟨_, rfl, ?_⟩; have n1 := Aside0.mk (Kd.R_below HL.out hb); have n2 := Aside0.mk (HI.out.below hb); have n3 := Aside0.mk (below_step HB.out hb); have n4 := Aside0.mk (N4.out.below hb); clear HL HI HB N4 hb; have HL := n1; have HI := n2; have HB := n3; have N4 := n4; clear n1 n2 n3 n4) | ((with_reducible refine gate_dst (N := 44) rfl ?_); refine goesL_ (some 44) rfl rfl Try.func34 (by kernel_rfl) rfl #[sv s, .int .i64 (210 + (i : Int))] rfl (by (try simp only [List.map_toArray, List.map_cons, List.map_nil]); first | done | rfl) ?_; refine (fill_row k (w0 := w) HB.out N4.out HFI.out).mono ?_; rintro e wb ⟨rfl, hro, hb, hkp⟩; refine ⟨_, rfl, ?_⟩; have n1 := Aside0.mk (list_kept HL.out N4.out hkp); have n2 := Aside0.mk (HI.out.kept hkp (fun t ht e => N5.out t ht e)); have n3 := Aside0.mk hb; have n4 := Aside0.mk hro; clear HL HI HB N4 hb hkp hro; have HL := n1; have HI := n2; have HB := n3; have N4 := n4; clear n1 n2 n3 n4; unfold sv) | ((with_reducible refine gate_dst (N := 48) rfl ?_); at_builtin; refine Kd.R_append kS (w0 := w) w.heap.size rfl (.tmp 45) (.tmp 47) 58 22 (.slice none 0 0) 24 rfl Try.underlying58 info22 rfl (by decide) (by decide) u9 ls s [sv s] (fun _ => True) (fun _ => False) rfl rfl rfl (fun _ hk => hk.elim) (fun _ _ => trivial) HL.out HB.out HB.out.size ?aL ?_; (case aL => have := HLN.out; omega); intro vz wc hrow hb hg hat; have n2 := Aside0.mk (range_push fl HLN.out ((HI.out.over HL.out hg).push (N4.out.grown hg (row_ne HL.out N4.out)) N5.out)); have n1 := Aside0.mk hrow; have n3 := Aside0.mk hb; clear HL HI HB N4 hrow hb hg hat; have HL := n1; have HI := n2; have HB := n3; clear n1 n2 n3))
      go_roundw
      case rel => exact ⟨i + 1, ls ++ [s], by omega, by go_num, ⟨by have := HLN.out; simp; omega⟩, HL, HI, HB⟩
      case measure => simp [intOf]; omega
    · obtain rfl : i = ops.length := by omega
      obtain ⟨A9, c9, e9⟩ := Kd.R_slice HL.out
      have hcl9 : ops.length ≤ c9 := by have h := HL.out; rw [e9] at h; have h2 := (Kd.R_reads' h).2.1; have := HLN.out; omega
      rw [HLN.out] at e9
      subst e9
      obtain ⟨w1, rfl⟩ : ∃ w1 : World, w1 = wr := ⟨_, rfl⟩
      have HTw : Aside0 (Two w1.heap.size w.heap.size fl gl ls [] w1) := ⟨⟨by simp, fun j s _ hs => HI.out.row j s (fl j) hs (by have := (List.getElem?_eq_some_iff.1 hs).1; have := HLN.out; rw [List.getElem?_map, List.getElem?_range (by omega)]; rfl), by simp, by simp⟩⟩
      have HLb : Aside0 (∀ s ∈ ls, s.1 < w1.heap.size) := ⟨fun s hs => (HI.out.ge s hs).2⟩
      have HLc : Aside0 (∀ (j : Nat) (s : SV), ls[j]? = some s → s.2.1 ≤ s.2.2 ∧ s.2.1 = (fl j).length) := ⟨fun j s hs => by have h := HI.out.row j s (fl j) hs (by have := (List.getElem?_eq_some_iff.1 hs).1; have := HLN.out; rw [List.getElem?_map, List.getElem?_range (by omega)]; rfl); exact ⟨h.cap, h.len.symm⟩⟩
      have HLd := Aside0.mk HI.out.dist
      have HL9 := Aside0.mk (Kd.R_lt HL.out)
      have HB2 : Aside0 (Below w.heap.size w w1 ∧ w1.heap.size ≤ w1.heap.size) := ⟨HB.out, Nat.le_refl _⟩
      clear HB HI
      go_wp2
      go_loopw [10, 14] (fun v10 v14 w' => ∃ (i : Nat) (ms : List SV), i ≤ ops.length ∧ v14 = .int .i64 i ∧ Aside0 (ms.length = i) ∧ Aside0 (Grow w1 w.heap.size v10 ms w') ∧ Aside0 (Two w1.heap.size w.heap.size fl gl ls ms w') ∧ Aside0 (Kd.R kS 22 w' w.heap.size (fun _ => True) (.slice A9 ops.length c9) ls) ∧ Aside0 (Below w.heap.size w w' ∧ w1.heap.size ≤ w'.heap.size)) (fun _ v14 _ => ops.length - (intOf v14).toNat)
      case atStart => exact ⟨0, [], Nat.zero_le _, rfl, ⟨rfl⟩, ⟨Kd.R_nil _ _ _ _ _⟩, HTw, HL, HB2⟩
      case round =>
        clear HTw HL HB2
        obtain ⟨i, ms, hi, rfl, HMN, HGr, HTw, HL, HB⟩ := hrel
        by_cases hlt : i < ops.length
        · obtain ⟨s, hs⟩ : ∃ s, ls[i]? = some s := ⟨_, List.getElem?_eq_getElem (by have := HLN.out; omega)⟩
          obtain ⟨ad9, rfl, hcell⟩ := outer_at (list_reads HL.out) hs
          have Hs := Aside0.mk hs
          have HRow := Aside0.mk (HTw.out.todo i s (by have := HMN.out; omega) hs)
          have hsl : s.2.1 ≤ 5000 := by have h1 := HRow.out.len; have h2 := HFl.out i (by omega); omega
          unfold sv at hcell
          clear hs
          go_wp2_with (first | ((with_reducible refine gate_dst (N := 64) rfl ?_); at_builtin; refine row_append w.heap.size rfl (.tmp 59) (.tmp 63) rfl s (fl i) (⟨0, 1 + (i : Int), 0⟩ : S24) rfl rfl HRow.out ?aS ?aL ?_; (case aS => exact HB.out.1.size); (case aL => omega); intro t w2 hrow hg; have n1 := Aside0.mk (Two.push (t := t) HTw.out HMN.out Hs.out HB.out.2 HLb.out HLd.out hrow hg); have n2 := Aside0.mk (Grow.step HGr.out HRow.out hg); have n3 := Aside0.mk (list_step HL.out HRow.out hg); have n4 : Aside0 (Below w.heap.size w w2 ∧ w1.heap.size ≤ w2.heap.size) := ⟨below_step2 HB.out.1 HRow.out.ge hg, Nat.le_trans HB.out.2 (size_step2 hg)⟩; clear HTw HGr HL HB HRow hrow hg; have HTw := n1; have HGr := n2; have HL := n3; have HB := n4; clear n1 n2 n3 n4; unfold sv) | ((with_reducible refine gate_dst (N := 66) rfl ?_); at_builtin; refine Kd.R_append kS (w0 := w) w.heap.size rfl (.tmp 55) (.tmp 65) 58 22 (.slice none 0 0) 24 rfl Try.underlying58 info22 rfl (by decide) (by decide) u10 ms t [sv t] (fun q => w1.heap.size ≤ q) (fun _ => False) rfl rfl rfl (fun _ hk => hk.elim) (fun q hq => Nat.le_trans HB.out.2 hq) HGr.out HB.out.1 HB.out.1.size ?aL ?_; (case aL => have := HMN.out; omega); intro vz w3 hrow hb hg hat; have n1 := Aside0.mk (Two.over HTw.out HGr.out hg (fun q hq => HGr.out.1 q hq) HLb.out); have n2 : Aside0 (Grow w1 w.heap.size vz (ms ++ [t]) w3) := ⟨hrow⟩; have n3 := Aside0.mk (Kd.R_grown2 HL.out rfl hg (fun q hq e => by have h1 : w1.heap.size ≤ q := HGr.out.1 q hq; have h2 := HL9.out q e.symm; omega)); have n4 : Aside0 (Below w.heap.size w w3 ∧ w1.heap.size ≤ w3.heap.size) := ⟨hb, Nat.le_trans HB.out.2 (Kept.of_grown (S := fun _ => True) hg (Kept.refl _ _) (fun _ _ => .inl trivial)).1⟩; clear HTw HGr HL HB hrow hb hg hat; have HTw := n1; have HGr := n2; have HL := n3; have HB := n4; clear n1 n2 n3 n4))
          go_roundw
          case rel => exact ⟨i + 1, ms ++ [t], by omega, by go_num, ⟨by have := HMN.out; simp; omega⟩, HGr, HTw, HL, HB⟩
          case measure => simp [intOf]; omega
        · obtain rfl : i = ops.length := by omega
          obtain ⟨A10, c10, e10⟩ := Kd.R_slice HGr.out
          have hcl10 : ops.length ≤ c10 := by have h := HGr.out; rw [e10] at h; have h2 := (Kd.R_reads' h).2.1; have := HMN.out; omega
          rw [HMN.out] at e10
          subst e10
          obtain ⟨wz, rfl⟩ : ∃ wz : World, wz = wr := ⟨_, rfl⟩
          go_wp2
          go_loopw [15] (fun v15 w' => ∃ i : Nat, i ≤ ops.length ∧ v15 = .int .i64 i ∧ Aside0 (Below wz.heap.size wz w')) (fun v15 _ => ops.length - (intOf v15).toNat)
          case atStart => exact ⟨0, Nat.zero_le _, rfl, ⟨Below.refl _ _⟩⟩
          case round =>
            obtain ⟨i, hi3, rfl, HI⟩ := hrel
            by_cases hlt : i < ops.length
            · obtain ⟨s, hs⟩ : ∃ s, ls[i]? = some s := ⟨_, List.getElem?_eq_getElem (by have := HLN.out; omega)⟩
              obtain ⟨t, ht⟩ : ∃ t, ms[i]? = some t := ⟨_, List.getElem?_eq_getElem (by have := HMN.out; omega)⟩
              obtain ⟨ad9, rfl, z0⟩ := outer_at (Kd.C_below (list_reads HL.out) (below_drew1 HI.out)) hs
              obtain ⟨ad10, rfl, z1⟩ := outer_at (Kd.C_below (list_reads HGr.out) (below_drew1 HI.out)) ht
              obtain ⟨hrow, hold⟩ := HTw.out.done i t s ht hs
              obtain ⟨hcap, hfll⟩ := HLc.out i s hs
              have hx : (fl i ++ gl i)[s.2.1]? = some (⟨0, 1 + (i : Int), 0⟩ : S24) := by rw [hfll, List.getElem?_append_right (Nat.le_refl _), Nat.sub_self]; rfl
              obtain ⟨⟨_, z2, _⟩, _, _⟩ := (hrow.below (below_drew1 HI.out)).elem hx
              have htl : t.2.1 = s.2.1 + 1 := by have h1 := hrow.len; rw [List.length_append, ← hfll] at h1; simpa [gl] using h1.symm
              have hst : s.2.1 < t.2.1 := by omega
              have hsl : s.2.1 ≤ 5000 := by have h2 := HFl.out i (by omega); omega
              have HO := Aside0.mk (C_grown (fun _ _ _ _ h => h) hold (grown_of_below (below_drew1 HI.out) none) (by simp))
              clear htl
              have HCp := Aside0.mk hcap
              have hw210 : wrap64 (210 + (i : Int)) = 210 + (i : Int) := P.wrap_in (by omega) (by omega)
              have hw1 : wrap64 (1 + (i : Int)) = 1 + (i : Int) := P.wrap_in (by omega) (by omega)
              have hq : ((1 + (i : Int)) != wrap64 (1 + (i : Int))) = false := by rw [hw1]; simp
              have hq2 : ((1 + (i : Int)) == wrap64 (1 + (i : Int))) = true := by rw [hw1]; simp
              clear hw1
              change wr.drew.cell? ⟨t.1, s.2.1 * 3 + 1, none⟩ = some (.int .i64 (1 + (i : Int))) at z2
              unfold sv at z0 z1
              have n1 := Aside0.mk (below_drew1 HI.out)
              clear HI hs ht hrow hold hcap hfll hx
              have HI := n1
              clear n1
              go_wp2
              refine start_ (n := 25) (S := fun w' => w'.cell? (ad9.add i) = some (.slice (some ⟨s.1, 0, none⟩) s.2.1 s.2.2) ∧ w'.cell? (ad10.add i) = some (.slice (some ⟨t.1, 0, none⟩) t.2.1 t.2.2) ∧ w'.cell? ⟨t.1, s.2.1 * 3 + 1, none⟩ = some (.int .i64 (1 + (i : Int)))) (ds := []) #[false, false, false, false, false, false, false, false, false, false, false, false, false, false, false, false, false, false, false, false, false, false, false, false, false] (by kernel_rfl) rfl rfl ⟨z0, z1, z2⟩ (fun hHeld => ?_); refine with_tabW ptTab17 ptBits17 (fun HT_ HW_ => ?_)
              generalize wr.drew = wp at HI HO z0 z1 z2 hHeld ⊢
              refine pure_ (i := 0) (N := some 73) (v := ?_) (a' := ?_) #[true, false, false, false, false, false, false, false, false, false, false, false, false, false, false, false, false, false, false, false, false, false, false, false, false] rfl rfl (any_of HT_.out (by kernel_rfl)) (fun _ _ _ h => h) (Or.inl ⟨by rfl, ?_⟩) ?_ ?_
              rotate_left
              · intro w'
                go_simp
                with_reducible rfl
              rotate_left
              · simp only [Act.put, List.setIfInBounds_toArray, List.set_cons_zero, List.set_cons_succ, i64_w, i32_w]
                rfl
              refine pure_ (i := 1) (N := some 74) (v := ?_) (a' := ?_) #[true, true, false, false, false, false, false, false, false, false, false, false, false, false, false, false, false, false, false, false, false, false, false, false, false] rfl rfl (any_of HT_.out (by kernel_rfl)) (fun _ _ _ h => h) (Or.inl ⟨by rfl, ?_⟩) ?_ ?_
              rotate_left
              · intro w'
                go_simp
                with_reducible rfl
              rotate_left
              · simp only [Act.put, List.setIfInBounds_toArray, List.set_cons_zero, List.set_cons_succ, i64_w, i32_w]
                rfl
              refine pure_ (i := 2) (N := some 75) (v := ?_) (a' := ?_) #[true, true, true, false, false, false, false, false, false, false, false, false, false, false, false, false, false, false, false, false, false, false, false, false, false] rfl rfl (any_of HT_.out (by kernel_rfl)) (fun _ _ _ h => h) (Or.inl ⟨by rfl, ?_⟩) ?_ ?_
              rotate_left
              · intro w'
                go_simp
                with_reducible rfl
              rotate_left
              · simp only [Act.put, List.setIfInBounds_toArray, List.set_cons_zero, List.set_cons_succ, i64_w, i32_w]
                rfl
              refine pure_ (i := 4) (N := some 77) (v := ?_) (a' := ?_) #[true, true, true, false, true, false, false, false, false, false, false, false, false, false, false, false, false, false, false, false, false, false, false, false, false] rfl rfl (any_of HT_.out (by kernel_rfl)) (fun _ _ _ h => h) (Or.inl ⟨by rfl, ?_⟩) ?_ ?_
              rotate_left
              · intro w'
                go_simp
                with_reducible rfl
              rotate_left
              · simp only [Act.put, List.setIfInBounds_toArray, List.set_cons_zero, List.set_cons_succ, i64_w, i32_w]
                rfl
              refine pure_ (i := 5) (N := some 78) (v := ?_) (a' := ?_) #[true, true, true, false, true, true, false, false, false, false, false, false, false, false, false, false, false, false, false, false, false, false, false, false, false] rfl rfl (any_of HT_.out (by kernel_rfl)) (fun _ _ _ h => h) (Or.inl ⟨by rfl, ?_⟩) ?_ ?_
              rotate_left
              · intro w'
                go_simp
                with_reducible rfl
              rotate_left
              · simp only [Act.put, List.setIfInBounds_toArray, List.set_cons_zero, List.set_cons_succ, i64_w, i32_w]
                rfl
              refine take_ (i := 3) (N := some 76) (v := ?_) (a' := ?_) #[true, true, true, true, true, true, false, false, false, false, false, false, false, false, false, false, false, false, false, false, false, false, false, false, false] rfl rfl (take_ofW HT_.out HW_.out (by kernel_rfl)) (fun _ _ _ h => h) (Or.inl ⟨by rfl, ?_⟩) hHeld ?_ ?_
              rotate_left
              · rintro w' ⟨s0, s1, s2⟩
                go_simp
                with_reducible rfl
              rotate_left
              · simp only [Act.put, List.setIfInBounds_toArray, List.set_cons_zero, List.set_cons_succ, i64_w, i32_w]
                rfl
              refine one_ (i := 6) (N := some 79) #[true, true, true, true, true, true, true, false, false, false, false, false, false, false, false, false, false, false, false, false, false, false, false, false, false] rfl rfl (one_of HT_.out (by kernel_rfl)) (by decide) (fun K hK => ?_)
              refine goes_ Try.func38 (by kernel_rfl) rfl #[.slice (some ⟨s.1, 0, none⟩) s.2.1 s.2.2, .int .i64 (wrap64 (210 + (i : Int)))] (by rfl) rfl rfl (by (try simp only [List.map_toArray, List.map_cons, List.map_nil]); first | done | rfl) ?_
              rw [hw210]
              refine (full_read k HO.out HCp.out (HFu.out i (by omega))).mono ?_
              rintro e wq ⟨rfl, hb⟩
              refine ⟨_, rfl, ?_⟩
              have N1 := Aside0.mk (below_step HI.out hb)
              clear HI
              have HI := N1
              clear N1
              refine hK.out _ _ ⟨(hb.cell (World.block_lt_of_cell? _ _ z0)).trans z0, (hb.cell (World.block_lt_of_cell? _ _ z1)).trans z1, (hb.cell (World.block_lt_of_cell? _ _ z2)).trans z2⟩ (fun hHeld => ?_)
              clear hK K
              refine norm_ (a' := ?_) ?_ ?_
              rotate_left
              · show Act.put _ (some 79) _ = _
                simp only [Act.put, List.setIfInBounds_toArray, List.set_cons_zero, List.set_cons_succ, i64_w, i32_w]
                rfl
              refine pure_ (i := 7) (N := some 80) (v := ?_) (a' := ?_) #[true, true, true, true, true, true, true, true, false, false, false, false, false, false, false, false, false, false, false, false, false, false, false, false, false] rfl rfl (any_of HT_.out (by kernel_rfl)) (fun _ _ _ h => h) (Or.inl ⟨by rfl, ?_⟩) ?_ ?_
              rotate_left
              · intro w'
                go_simp
                with_reducible rfl
              rotate_left
              · simp only [Act.put, List.setIfInBounds_toArray, List.set_cons_zero, List.set_cons_succ, i64_w, i32_w]
                rfl
              refine pure_ (i := 8) (N := some 81) (v := ?_) (a' := ?_) #[true, true, true, true, true, true, true, true, true, false, false, false, false, false, false, false, false, false, false, false, false, false, false, false, false] rfl rfl (any_of HT_.out (by kernel_rfl)) (fun _ _ _ h => h) (Or.inl ⟨by rfl, ?_⟩) ?_ ?_
              rotate_left
              · intro w'
                go_simp
                with_reducible rfl
              rotate_left
              · simp only [Act.put, List.setIfInBounds_toArray, List.set_cons_zero, List.set_cons_succ, i64_w, i32_w]
                rfl
              refine pure_ (i := 9) (N := some 82) (v := ?_) (a' := ?_) #[true, true, true, true, true, true, true, true, true, true, false, false, false, false, false, false, false, false, false, false, false, false, false, false, false] rfl rfl (any_of HT_.out (by kernel_rfl)) (fun _ _ _ h => h) (Or.inl ⟨by rfl, ?_⟩) ?_ ?_
              rotate_left
              · intro w'
                go_simp
                with_reducible rfl
              rotate_left
              · simp only [Act.put, List.setIfInBounds_toArray, List.set_cons_zero, List.set_cons_succ, i64_w, i32_w]
                rfl
              refine pure_ (i := 10) (N := some 83) (v := ?_) (a' := ?_) #[true, true, true, true, true, true, true, true, true, true, true, false, false, false, false, false, false, false, false, false, false, false, false, false, false] rfl rfl (any_of HT_.out (by kernel_rfl)) (fun _ _ _ h => h) (Or.inl ⟨by rfl, ?_⟩) ?_ ?_
              rotate_left
              · intro w'
                go_simp
                with_reducible rfl
              rotate_left
              · simp only [Act.put, List.setIfInBounds_toArray, List.set_cons_zero, List.set_cons_succ, i64_w, i32_w]
                rfl
              refine pure_ (i := 11) (N := some 84) (v := ?_) (a' := ?_) #[true, true, true, true, true, true, true, true, true, true, true, true, false, false, false, false, false, false, false, false, false, false, false, false, false] rfl rfl (any_of HT_.out (by kernel_rfl)) (fun _ _ _ h => h) (Or.inl ⟨by rfl, ?_⟩) ?_ ?_
              rotate_left
              · intro w'
                go_simp
                with_reducible rfl
              rotate_left
              · simp only [Act.put, List.setIfInBounds_toArray, List.set_cons_zero, List.set_cons_succ, i64_w, i32_w]
                rfl
              refine pure_ (i := 13) (N := some 86) (v := ?_) (a' := ?_) #[true, true, true, true, true, true, true, true, true, true, true, true, false, true, false, false, false, false, false, false, false, false, false, false, false] rfl rfl (any_of HT_.out (by kernel_rfl)) (fun _ _ _ h => h) (Or.inl ⟨by rfl, ?_⟩) ?_ ?_
              rotate_left
              · intro w'
                go_simp
                with_reducible rfl
              rotate_left
              · simp only [Act.put, List.setIfInBounds_toArray, List.set_cons_zero, List.set_cons_succ, i64_w, i32_w]
                rfl
              refine pure_ (i := 14) (N := some 87) (v := ?_) (a' := ?_) #[true, true, true, true, true, true, true, true, true, true, true, true, false, true, true, false, false, false, false, false, false, false, false, false, false] rfl rfl (any_of HT_.out (by kernel_rfl)) (fun _ _ _ h => h) (Or.inl ⟨by rfl, ?_⟩) ?_ ?_
              rotate_left
              · intro w'
                go_simp
                with_reducible rfl
              rotate_left
              · simp only [Act.put, List.setIfInBounds_toArray, List.set_cons_zero, List.set_cons_succ, i64_w, i32_w]
                rfl
              refine pure_ (i := 15) (N := some 88) (v := ?_) (a' := ?_) #[true, true, true, true, true, true, true, true, true, true, true, true, false, true, true, true, false, false, false, false, false, false, false, false, false] rfl rfl (any_of HT_.out (by kernel_rfl)) (fun _ _ _ h => h) (Or.inl ⟨by rfl, ?_⟩) ?_ ?_
              rotate_left
              · intro w'
                go_simp
                with_reducible rfl
              rotate_left
              · simp only [Act.put, List.setIfInBounds_toArray, List.set_cons_zero, List.set_cons_succ, i64_w, i32_w]
                rfl
              refine pure_ (i := 21) (N := some 94) (v := ?_) (a' := ?_) #[true, true, true, true, true, true, true, true, true, true, true, true, false, true, true, true, false, false, false, false, false, true, false, false, false] rfl rfl (any_of HT_.out (by kernel_rfl)) (fun _ _ _ h => h) (Or.inl ⟨by rfl, ?_⟩) ?_ ?_
              rotate_left
              · intro w'
                go_simp
                with_reducible rfl
              rotate_left
              · simp only [Act.put, List.setIfInBounds_toArray, List.set_cons_zero, List.set_cons_succ, i64_w, i32_w]
                rfl
              refine pure_ (i := 22) (N := some 95) (v := ?_) (a' := ?_) #[true, true, true, true, true, true, true, true, true, true, true, true, false, true, true, true, false, false, false, false, false, true, true, false, false] rfl rfl (any_of HT_.out (by kernel_rfl)) (fun _ _ _ h => h) (Or.inl ⟨by rfl, ?_⟩) ?_ ?_
              rotate_left
              · intro w'
                go_simp
                with_reducible rfl
              rotate_left
              · simp only [Act.put, List.setIfInBounds_toArray, List.set_cons_zero, List.set_cons_succ, i64_w, i32_w]
                rfl
              refine take_ (i := 12) (N := some 85) (v := ?_) (a' := ?_) #[true, true, true, true, true, true, true, true, true, true, true, true, true, true, true, true, false, false, false, false, false, true, true, false, false] rfl rfl (take_ofW HT_.out HW_.out (by kernel_rfl)) (fun _ _ _ h => h) (Or.inl ⟨by rfl, ?_⟩) hHeld ?_ ?_
              rotate_left
              · rintro w' ⟨s0, s1, s2⟩
                go_simp
                with_reducible rfl
              rotate_left
              · simp only [Act.put, List.setIfInBounds_toArray, List.set_cons_zero, List.set_cons_succ, i64_w, i32_w]
                rfl
              refine take_ (i := 16) (N := some 89) (v := ?_) (a' := ?_) #[true, true, true, true, true, true, true, true, true, true, true, true, true, true, true, true, true, false, false, false, false, true, true, false, false] rfl rfl (take_ofW HT_.out HW_.out (by kernel_rfl)) (fun _ _ _ h => h) (Or.inl ⟨by rfl, ?_⟩) hHeld ?_ ?_
              rotate_left
              · rintro w' ⟨s0, s1, s2⟩
                go_simp
                with_reducible rfl
              rotate_left
              · simp only [Act.put, List.setIfInBounds_toArray, List.set_cons_zero, List.set_cons_succ, i64_w, i32_w]
                rfl
              refine pure_ (i := 17) (N := some 90) (v := ?_) (a' := ?_) #[true, true, true, true, true, true, true, true, true, true, true, true, true, true, true, true, true, true, false, false, false, true, true, false, false] rfl rfl (any_of HT_.out (by kernel_rfl)) (fun _ _ _ h => h) (Or.inl ⟨by rfl, ?_⟩) ?_ ?_
              rotate_left
              · intro w'
                go_simp
                with_reducible rfl
              rotate_left
              · simp only [Act.put, List.setIfInBounds_toArray, List.set_cons_zero, List.set_cons_succ, i64_w, i32_w]
                rfl
              refine pure_ (i := 18) (N := some 91) (v := ?_) (a' := ?_) #[true, true, true, true, true, true, true, true, true, true, true, true, true, true, true, true, true, true, true, false, false, true, true, false, false] rfl rfl (any_of HT_.out (by kernel_rfl)) (fun _ _ _ h => h) (Or.inl ⟨by rfl, ?_⟩) ?_ ?_
              rotate_left
              · intro w'
                go_simp
                with_reducible rfl
              rotate_left
              · simp only [Act.put, List.setIfInBounds_toArray, List.set_cons_zero, List.set_cons_succ, i64_w, i32_w]
                rfl
              refine pure_ (i := 19) (N := some 92) (v := ?_) (a' := ?_) #[true, true, true, true, true, true, true, true, true, true, true, true, true, true, true, true, true, true, true, true, false, true, true, false, false] rfl rfl (any_of HT_.out (by kernel_rfl)) (fun _ _ _ h => h) (Or.inl ⟨by rfl, ?_⟩) ?_ ?_
              rotate_left
              · intro w'
                go_simp
                with_reducible rfl
              rotate_left
              · simp only [Act.put, List.setIfInBounds_toArray, List.set_cons_zero, List.set_cons_succ, i64_w, i32_w]
                rfl
              refine take_ (i := 20) (N := some 93) (v := ?_) (a' := ?_) #[true, true, true, true, true, true, true, true, true, true, true, true, true, true, true, true, true, true, true, true, true, true, true, false, false] rfl rfl (take_ofW HT_.out HW_.out (by kernel_rfl)) (fun _ _ _ h => h) (Or.inl ⟨by rfl, ?_⟩) hHeld ?_ ?_
              rotate_left
              · rintro w' ⟨s0, s1, s2⟩
                go_simp
                with_reducible rfl
              rotate_left
              · simp only [Act.put, List.setIfInBounds_toArray, List.set_cons_zero, List.set_cons_succ, i64_w, i32_w]
                rfl
              refine pure_ (i := 23) (N := some 96) (v := ?_) (a' := ?_) #[true, true, true, true, true, true, true, true, true, true, true, true, true, true, true, true, true, true, true, true, true, true, true, true, false] rfl rfl (any_of HT_.out (by kernel_rfl)) (fun _ _ _ h => h) (Or.inl ⟨by rfl, ?_⟩) ?_ ?_
              rotate_left
              · intro w'
                go_simp
                with_reducible rfl
              rotate_left
              · simp only [Act.put, List.setIfInBounds_toArray, List.set_cons_zero, List.set_cons_succ, i64_w, i32_w]
                rfl
              refine pure_ (i := 24) (N := some 97) (v := ?_) (a' := ?_) #[true, true, true, true, true, true, true, true, true, true, true, true, true, true, true, true, true, true, true, true, true, true, true, true, true] rfl rfl (any_of HT_.out (by kernel_rfl)) (fun _ _ _ h => h) (Or.inl ⟨by rfl, ?_⟩) ?_ ?_
              rotate_left
              · intro w'
                go_simp
                with_reducible rfl
              rotate_left
              · simp only [Act.put, List.setIfInBounds_toArray, List.set_cons_zero, List.set_cons_succ, i64_w, i32_w]
                rfl
              refine done_ (done_of HT_.out (by kernel_rfl)) ?_
              go_wp2
              exact ⟨⟨i + 1, by omega, by go_num, HI⟩, by simp [intOf]; omega⟩
            · obtain rfl : i = ops.length := by omega
              have HB3 := Aside0.mk (below_step HB.out.1 HI.out)
              go_wp2_with ((with_reducible refine gate_dst (N := 100) rfl ?_); refine goesL_ (some 100) rfl rfl Try.func26 (by kernel_rfl) rfl #[sv r, sv kp] rfl (by (try simp only [List.map_toArray, List.map_cons, List.map_nil]); first | done | rfl) ?_; refine (same_row k (HR.out.below HB3.out) (HKp.out.below HB3.out) HS.out).mono ?_; rintro e wy ⟨rfl, hb⟩; refine ⟨_, rfl, ?_⟩; have n3 := Aside0.mk (below_step HB3.out hb); clear HB3 hb; have HB3 := n3; clear n3)
              go_ret
              exact ⟨rfl, HB3.out⟩
end Go.Proofs.Ytjdhoipaanlipaa.G
