/- DiffApart, as a plain law: texts without a common character, up to the limit and past it. -/
import Derived.Test.YtjnciljimacblaaPU
import Derived.Test.YtjnciljimacblaaHC
import Derived.Test.YtjnciljimacblaaOpenU
import Derived.Test.YtjnciljimacblaaQx22
namespace Go.Proofs.Ytjnciljimacblaa.Pure
set_option linter.unusedVariables false
set_option linter.unusedSimpArgs false
open Go.RowKit Go.Proofs.Ytjnciljimacblaa.Q Go.Proofs.Ytjnciljimacblaa.P Go.Proofs.Ytjnciljimacblaa.OpenS Go.Proofs.YtjnciljimacblaaW.PrintWords
theorem lcs_apart (m : Nat) : ∀ xs ys : List UInt8, xs.length + ys.length ≤ m → (∀ x ∈ xs, ∀ y ∈ ys, x ≠ y) → JotDiff.lcs xs ys = 0 := by
  intro xs ys _ h
  obtain ⟨c, h1, h2, h3⟩ := JotDiff.lcs_attained xs ys
  rw [← h3]
  cases c with
  | nil => rfl
  | cons z c => exact absurd rfl (h z (h1.subset (by simp)) z (h2.subset (by simp)))
/-- The operations between two texts without a common character. -/
theorem ops_apart (m : Nat) : ∀ (xs ys : List UInt8) (j n : Nat), xs.length + ys.length ≤ m → (∀ x ∈ xs, ∀ y ∈ ys, x ≠ y) → ∀ (k : Nat) (o : S38), (opsL 1 1 xs ys j n)[k]? = some o →
    (k < xs.length ∧ o = ⟨2, (j : Int), 0, 1, 1 + ((n + k : Nat) : Int)⟩) ∨ (xs.length ≤ k ∧ ∃ y, ys[k - xs.length]? = some y ∧ o = ⟨1, ((j + (k - xs.length) : Nat) : Int), (y.toNat : Int), 1, 1 + ((n + k : Nat) : Int)⟩) := by
  induction m with
  | zero =>
    intro xs ys j n h _ k o ho
    have hx : xs = [] := List.length_eq_zero_iff.1 (by omega)
    have hy : ys = [] := List.length_eq_zero_iff.1 (by omega)
    subst hx; subst hy
    rw [ops_nil] at ho
    simp at ho
  | succ m ih =>
    have outs : ∀ (x : UInt8) (xs ys : List UInt8) (j n : Nat), xs.length + ys.length ≤ m → (∀ z ∈ xs, ∀ y ∈ ys, z ≠ y) → ∀ (k : Nat) (o : S38), ((⟨2, (j : Int), 0, 1, 1 + (n : Int)⟩ : S38) :: opsL 1 1 xs ys j (n + 1))[k]? = some o →
        (k < (x :: xs).length ∧ o = ⟨2, (j : Int), 0, 1, 1 + ((n + k : Nat) : Int)⟩) ∨ ((x :: xs).length ≤ k ∧ ∃ y, ys[k - (x :: xs).length]? = some y ∧ o = ⟨1, ((j + (k - (x :: xs).length) : Nat) : Int), (y.toNat : Int), 1, 1 + ((n + k : Nat) : Int)⟩) := by
      intro x xs ys j n h hd k o ho
      cases k with
      | zero =>
        have : (⟨2, (j : Int), 0, 1, 1 + (n : Int)⟩ : S38) = o := Option.some.inj ho
        exact .inl ⟨by simp, this.symm⟩
      | succ k =>
        rcases ih xs ys j (n + 1) h hd k o ho with ⟨h1, h2⟩ | ⟨h1, y, h2, h3⟩
        · exact .inl ⟨by simp; omega, by rw [h2, show n + 1 + k = n + (k + 1) by omega]⟩
        · refine .inr ⟨by simp; omega, y, ?_, ?_⟩
          · rw [List.length_cons, show k + 1 - (xs.length + 1) = k - xs.length by omega]; exact h2
          · rw [h3, List.length_cons, show k + 1 - (xs.length + 1) = k - xs.length by omega, show n + 1 + k = n + (k + 1) by omega]
    intro xs ys j n h hd k o ho
    match xs, ys with
    | [], [] => rw [ops_nil] at ho; simp at ho
    | [], y :: ys =>
      rw [ops_left] at ho
      simp only [List.length_cons, List.length_nil] at h
      cases k with
      | zero =>
        have : (⟨1, (j : Int), (y.toNat : Int), 1, 1 + (n : Int)⟩ : S38) = o := Option.some.inj ho
        exact .inr ⟨by simp, y, rfl, this.symm⟩
      | succ k =>
        rcases ih [] ys (j + 1) (n + 1) (by simp; omega) (by simp) k o ho with ⟨h1, _⟩ | ⟨h1, z, h2, h3⟩
        · simp at h1
        · refine .inr ⟨by simp, z, ?_, ?_⟩
          · simpa using h2
          · rw [h3]
            simp only [List.length_nil, Nat.sub_zero]
            rw [show j + 1 + k = j + (k + 1) by omega, show n + 1 + k = n + (k + 1) by omega]
    | x :: xs, [] =>
      rw [ops_right] at ho
      simp only [List.length_cons, List.length_nil] at h
      exact outs x xs [] j n (by simp; omega) (by simp) k o ho
    | x :: xs, y :: ys =>
      simp only [List.length_cons] at h
      have e : x ≠ y := hd x (by simp) y (by simp)
      have e1 : JotDiff.lcs xs (y :: ys) = 0 := lcs_apart _ xs (y :: ys) (Nat.le_refl _) (fun a ha b hb => hd a (by simp [ha]) b hb)
      have e2 : JotDiff.lcs (x :: xs) (y :: ys) = 0 := lcs_apart _ (x :: xs) (y :: ys) (Nat.le_refl _) hd
      rw [ops_cons, if_neg e, if_pos (by rw [e1, e2])] at ho
      exact outs x xs (y :: ys) j n (by rw [List.length_cons]; omega) (fun a ha b hb => hd a (by simp [ha]) b hb) k o ho
/-- c, c + 1, .., round and round. -/
def ring (c : Nat) (m : Nat) : List Int := (List.range m).map (fun i => ((c + i % 13 : Nat) : Int))
theorem ring_length (c m : Nat) : (ring c m).length = m := by simp [ring]
theorem ring_push (c m : Nat) : ring c m ++ [((c + m % 13 : Nat) : Int)] = ring c (m + 1) := by simp [ring, List.range_succ]
def ringB (c : Nat) (m : Nat) : List UInt8 := (List.range m).map (fun i => UInt8.ofNat (c + i % 13))
theorem ring_bytes (c m : Nat) (hc : c ≤ 200) : ring c m = numsOf (ringB c m) := by
  unfold ring numsOf ringB
  rw [List.map_map]
  apply List.map_congr_left
  intro i _
  show ((c + i % 13 : Nat) : Int) = ((UInt8.ofNat (c + i % 13)).toNat : Int)
  rw [UInt8.toNat_ofNat']
  omega
theorem L_ring (c m : Nat) (hc : c ≤ 200) : L (strOfNums (ring c m)) = ringB c m := by rw [ring_bytes c m hc, L_nums]
theorem ringB_mem {c m : Nat} {x : UInt8} (hc : c ≤ 200) (h : x ∈ ringB c m) : c ≤ x.toNat ∧ x.toNat ≤ c + 12 := by
  unfold ringB at h
  obtain ⟨i, _, rfl⟩ := List.mem_map.1 h
  rw [UInt8.toNat_ofNat']
  omega
theorem ring_plain (c m : Nat) (h1 : 32 ≤ c) (h2 : c ≤ 114) : plainE (strOfNums (ring c m)) = 0 := by
  rw [plainE_zero, L_ring c m (by omega), List.all_eq_true]
  intro x hx
  have := ringB_mem (by omega) hx
  unfold okByte
  simp
  omega
theorem ring_size (c m : Nat) : (strOfNums (ring c m)).size = m := by rw [strOfNums_size, ring_length]
set_option maxRecDepth 100000000 in
theorem apart_l3 (m : Nat) (hm : m ≤ 512) (bad : Int) (hb : In8 bad) (n : Nat) : ∀ xs : List Int, xs.length + n = 512 → plainE (strOfNums xs) = 0 → Ev (fun k => jotterlaw17_DiffApart.l3 k m bad xs (strOfNums (ring 97 m))) true := by
  induction n with
  | zero =>
    intro xs hx hp
    refine Ev.step (fun k => by rw [jotterlaw17_DiffApart.l3]) (Ev.neg (by omega) ?_)
    have z1 : (strOfNums xs).size = 512 := by rw [strOfNums_size]; omega
    have pe : plainE (⟨#[]⟩ : ByteArray) = 0 := by decide
    have ze : (⟨#[]⟩ : ByteArray).size = 0 := rfl
    have zz : (⟨#[122]⟩ : ByteArray).size = 1 := rfl
    have hc : checkE (⟨#[]⟩ : ByteArray) (strOfNums xs ++ (⟨#[122]⟩ : ByteArray)) = 170 := by
      have z2 : (strOfNums xs ++ (⟨#[122]⟩ : ByteArray)).size = 513 := by rw [size_append, z1, zz]
      unfold checkE
      rw [if_pos (by rw [if_pos (by rw [ze, z2]; omega), z2]; omega)]
    have hd2 : diff_Distance.f (⟨#[]⟩ : ByteArray) (strOfNums xs ++ (⟨#[122]⟩ : ByteArray)) = some (0, 170) := by
      unfold diff_Distance.f
      rw [hc, if_neg (by omega)]
    rw [dist_f (a := strOfNums xs) (b := ⟨#[]⟩) (by omega) (by omega) hp pe, hd2]
    simp only [Option.bind_some, if_true]
    have w1 : wrap64 (Int.tdiv (m : Int) 2) = ((m / 2 : Nat) : Int) := wrap_in (n := ((m / 2 : Nat) : Int)) (by omega) (by omega)
    rw [w1, Int.toNat_natCast]
    have rs := ring_size 97 m
    -- the first half, and two characters
    have hL : L ((strOfNums (ring 97 m)).extract 0 (m / 2)) = (L (strOfNums (ring 97 m))).take (m / 2) := by
      unfold L
      simp [ByteArray.data_extract]
    have ph : plainE ((strOfNums (ring 97 m)).extract 0 (m / 2)) = 0 := plainE_part (by rw [hL]; exact List.take_sublist _ _) (ring_plain 97 m (by omega) (by omega))
    have sh : ((strOfNums (ring 97 m)).extract 0 (m / 2)).size ≤ 512 := by
      rw [← L_length, hL, List.length_take]
      omega
    have sq : (strOfNums [113, bad]).size = 2 := by rw [strOfNums_size]; rfl
    have pq : plainE (strOfNums [113, bad]) = if 32 ≤ bad ∧ bad ≤ 126 then 0 else 171 := by
      have e : L (strOfNums [113, bad]) = [113, UInt8.ofNat bad.toNat] := by unfold L; rw [strOfNums_data]; rfl
      have e2 : (UInt8.ofNat bad.toNat).toNat = bad.toNat := by
        rw [UInt8.toNat_ofNat']
        have := hb.1; have := hb.2
        omega
      have h0 := hb.1
      by_cases h : 32 ≤ bad ∧ bad ≤ 126
      · rw [if_pos h, plainE_zero, e]
        simp only [List.all_cons, List.all_nil, okByte, e2]
        simp
        omega
      · rw [if_neg h]
        unfold plainE
        rw [if_neg]
        intro h2
        have h2 : (L (strOfNums [113, bad])).all okByte = true := h2
        rw [e] at h2
        simp only [List.all_cons, List.all_nil, okByte, e2] at h2
        simp at h2
        omega
    have hck : checkE ((strOfNums (ring 97 m)).extract 0 (m / 2)) (strOfNums [113, bad]) = if 32 ≤ bad ∧ bad ≤ 126 then 0 else 171 := by
      unfold checkE
      rw [if_neg (by split <;> omega), ph, pq]
      split <;> rfl
    have hcm : ∃ s, diff_Common.f ((strOfNums (ring 97 m)).extract 0 (m / 2)) (strOfNums [113, bad]) = some (s, if 32 ≤ bad ∧ bad ≤ 126 then 0 else 171) := by
      unfold diff_Common.f
      rw [hck]
      by_cases h : 32 ≤ bad ∧ bad ≤ 126
      · rw [if_pos h]; exact ⟨_, rfl⟩
      · rw [if_neg h]; exact ⟨_, rfl⟩
    obtain ⟨s, hcm⟩ := hcm
    rw [hcm]
    simp only [Option.bind_some]
    refine Ev.pos (by omega) ?_
    by_cases h32 : bad ≥ 32
    · refine Ev.pos h32 (Ev.pos (by omega) (Ev.pos (by omega) ?_))
      by_cases h126 : bad ≤ 126
      · rw [if_pos (show 32 ≤ bad ∧ bad ≤ 126 from ⟨h32, h126⟩)]
        exact Ev.pos (by rw [decide_eq_true h126]; rfl) (Ev.pos h126 (Ev.now _))
      · rw [if_neg (show ¬ (32 ≤ bad ∧ bad ≤ 126) from fun h => h126 h.2)]
        exact Ev.pos (by rw [decide_eq_false h126]; rfl) (Ev.neg h126 (Ev.now _))
    · rw [if_neg (show ¬ (32 ≤ bad ∧ bad ≤ 126) from fun h => h32 h.1)]
      exact Ev.neg h32 (Ev.pos (by omega) (Ev.pos (by omega) (Ev.pos rfl (Ev.now _))))
  | succ n ih =>
    intro xs hx hp
    refine Ev.step (fun k => by rw [jotterlaw17_DiffApart.l3]) (Ev.pos (by omega) (Ev.pos (by omega) (ih (xs ++ [122]) (by simp; omega) ?_)))
    rw [plainE_zero] at hp ⊢
    have e : L (strOfNums (xs ++ [122])) = L (strOfNums xs) ++ [122] := by unfold L; rw [strOfNums_data, strOfNums_data, List.map_append]; rfl
    rw [e, List.all_append, hp]
    rfl
theorem apart_l2 (m n : Nat) (hm : m ≤ 512) (hn : n ≤ 512) (bad : Int) (hb : In8 bad) (ops : List S38) (hlen : ops.length ≤ 64) (hle : ops.length ≤ m + n)
    (hops : ∀ (k : Nat) (o : S38), ops[k]? = some o → (k < m ∧ o = ⟨2, 0, 0, 1, 1 + (k : Int)⟩) ∨ (m ≤ k ∧ ∃ y, (ringB 110 n)[k - m]? = some y ∧ o = ⟨1, ((k - m : Nat) : Int), (y.toNat : Int), 1, 1 + (k : Int)⟩)) (d : Nat) :
    ∀ i : Nat, i + d = ops.length → Ev (fun k => jotterlaw17_DiffApart.l2 k m bad (ring 97 m) (strOfNums (ring 97 m)) (strOfNums (ring 110 n)) ops i) true := by
  induction d with
  | zero =>
    intro i hi
    refine Ev.step (fun k => by rw [jotterlaw17_DiffApart.l2]) (Ev.neg (by omega) ?_)
    exact apart_l3 m hm bad hb (512 - m) (ring 97 m) (by rw [ring_length]; omega) (ring_plain 97 m (by omega) (by omega))
  | succ d ih =>
    intro i hi
    have hio : i < ops.length := by omega
    have hr : rd_T38 ops (i : Int) = ops[i] := by rw [rd38, getD_at _ _ _ hio]
    refine Ev.step (fun k => by rw [jotterlaw17_DiffApart.l2]) (Ev.pos (by omega) ?_)
    rw [hr]
    rcases hops i _ (List.getElem?_eq_getElem hio) with ⟨h1, h2⟩ | ⟨h1, y, hy, h2⟩
    · rw [h2, wrap_in (n := (i : Int) + 1) (by omega) (by omega)]
      refine Ev.neg (by omega) (Ev.pos (by omega) (Ev.bind (a := true) (Ev.const ?_) (Ev.pos rfl ?_)))
      · unfold jotterlaw17_one.f
        rw [if_pos rfl, if_pos rfl, if_pos rfl, if_pos rfl]
        congr 1
        rw [beq_iff_eq]
        show (1 : Int) + (i : Int) = (i : Int) + 1
        omega
      · exact ih (i + 1) (by omega)
    · have hyl : i - m < n := by have := (List.getElem?_eq_some_iff.1 hy).1; simpa [ringB] using this
      have hbt : bt (strOfNums (ring 110 n)) ((i - m : Nat) : Int) = (y.toNat : Int) := by
        rw [bt_L _ _ (by rw [ring_size]; omega)]
        have e : (L (strOfNums (ring 110 n)))[i - m]? = some y := by rw [L_ring 110 n (by omega)]; exact hy
        rw [List.getElem?_eq_getElem (by rw [L_length, ring_size]; omega)] at e
        rw [Option.some.inj e]
      rw [h2, wrap_in (n := (i : Int) + 1) (by omega) (by omega), wrap_in (n := (i : Int) - (m : Int)) (by omega) (by omega), show (i : Int) - (m : Int) = ((i - m : Nat) : Int) by omega, hbt]
      refine Ev.pos (by omega) (Ev.pos (by omega) (Ev.pos (by rw [ring_size]; omega) (Ev.pos (by omega) (Ev.bind (a := true) (Ev.const ?_) (Ev.pos rfl ?_)))))
      · unfold jotterlaw17_one.f
        rw [if_pos rfl, if_pos rfl, if_pos rfl, if_pos rfl]
        congr 1
        rw [beq_iff_eq]
        show (1 : Int) + (i : Int) = (i : Int) + 1
        omega
      · exact ih (i + 1) (by omega)
theorem ring_apart (m n : Nat) : ∀ x ∈ ringB 97 m, ∀ y ∈ ringB 110 n, x ≠ y := by
  intro x hx y hy e
  have h1 := ringB_mem (by omega) hx
  have h2 := ringB_mem (by omega) hy
  rw [e] at h1
  omega
theorem ring_ops (m n : Nat) : ∃ O : List S38, O = opsL 1 1 (ringB 97 m) (ringB 110 n) 0 0 ∧ O.length = m + n ∧
    ∀ (k : Nat) (o : S38), O[k]? = some o → (k < m ∧ o = ⟨2, 0, 0, 1, 1 + (k : Int)⟩) ∨ (m ≤ k ∧ ∃ y, (ringB 110 n)[k - m]? = some y ∧ o = ⟨1, ((k - m : Nat) : Int), (y.toNat : Int), 1, 1 + (k : Int)⟩) := by
  refine ⟨_, rfl, ?_, fun k o ho => ?_⟩
  · have hol := ops_length 1 1 _ (ringB 97 m) (ringB 110 n) 0 0 (Nat.le_refl _)
    rw [lcs_apart _ _ _ (Nat.le_refl _) (ring_apart m n)] at hol
    have rA : (ringB 97 m).length = m := by simp [ringB]
    have rB : (ringB 110 n).length = n := by simp [ringB]
    rw [rA, rB] at hol
    exact hol
  · have rA : (ringB 97 m).length = m := by simp [ringB]
    have := ops_apart _ (ringB 97 m) (ringB 110 n) 0 0 (Nat.le_refl _) (ring_apart m n) k o ho
    rw [rA] at this
    simpa using this
theorem apart_done (m n : Nat) (hm : m ≤ 512) (hn : n ≤ 512) (bad : Int) (hb : In8 bad) : Ev (fun k => jotterlaw17_DiffApart.l1 k m n bad (ring 97 m) (ring 110 n) n) true := by
  have zA := ring_size 97 m
  have zB := ring_size 110 n
  have pA := ring_plain 97 m (by omega) (by omega)
  have pB := ring_plain 110 n (by omega) (by omega)
  have LA := L_ring 97 m (by omega)
  have LB := L_ring 110 n (by omega)
  have hne := ring_apart m n
  obtain ⟨O, hO, hOl, hOf⟩ := ring_ops m n
  have h0 : JotDiff.lcs (L (strOfNums (ring 97 m))) (L (strOfNums (ring 110 n))) = 0 := by
    rw [LA, LB]
    exact lcs_apart _ _ _ (Nat.le_refl _) hne
  have lA := L_length (strOfNums (ring 97 m))
  have lB := L_length (strOfNums (ring 110 n))
  have hd : distS (strOfNums (ring 97 m)) (strOfNums (ring 110 n)) = (m : Int) + (n : Int) := by rw [distS_eq, h0]; omega
  have hdf := dist_f (a := strOfNums (ring 97 m)) (b := strOfNums (ring 110 n)) (by omega) (by omega) pA pB
  have hck := check_ok (a := strOfNums (ring 97 m)) (b := strOfNums (ring 110 n)) (by omega) (by omega) pA pB
  have hkept : keptT (strOfNums (ring 97 m)) (strOfNums (ring 110 n)) = ⟨#[]⟩ := by
    obtain ⟨k1, k2, k3⟩ := JotDiff.kept_spec _ (L (strOfNums (ring 97 m))) (L (strOfNums (ring 110 n))) (Nat.le_refl _)
    apply L_inj
    have e : L (keptT (strOfNums (ring 97 m)) (strOfNums (ring 110 n))) = JotDiff.keptL (L (strOfNums (ring 97 m))) (L (strOfNums (ring 110 n))) := L_nums _
    rw [e]
    rw [h0] at k3
    rw [List.length_eq_zero_iff.1 k3]
    rfl
  have hcf : diff_Common.f (strOfNums (ring 97 m)) (strOfNums (ring 110 n)) = some (⟨#[]⟩, 0) := by unfold diff_Common.f; rw [if_pos hck, hkept]
  have hbf : diff_Between.f (strOfNums (ring 97 m)) (strOfNums (ring 110 n)) 1 1 = some (if (m : Int) + (n : Int) > 64 then ([], 172) else (O, 0)) := by
    unfold diff_Between.f betweenS
    rw [if_pos (by omega), if_neg (by rw [hck]; simp), if_neg (by omega), hd]
    have e : opsI 1 1 (strOfNums (ring 97 m)) (strOfNums (ring 110 n)) 0 0 0 = O := by
      rw [hO, ← LA, ← LB]; rfl
    rw [e]
    rfl
  have w := wrap_in (n := (m : Int) + (n : Int)) (by omega) (by omega)
  have hemp : ((⟨#[]⟩ : ByteArray).toList != ([] : List UInt8)) = false := by rw [toList_L]; rfl
  refine Ev.step (fun k => by rw [jotterlaw17_DiffApart.l1]) (Ev.neg (by omega) ?_)
  rw [hdf, hcf, hbf]
  simp only [Option.bind_some, if_true]
  rw [w, hd]
  refine Ev.pos rfl ?_
  rw [hemp]
  refine Ev.step (fun k => by rw [jotterlaw17_DiffApart.j2]) (Ev.neg (by simp) ?_)
  rw [w]
  clear hdf hcf hbf hck hkept hne h0 pA pB LA LB hd hO hemp w
  by_cases h : (m : Int) + (n : Int) > 64
  · rw [if_pos h]
    refine Ev.pos h (Ev.pos rfl (Ev.pos rfl ?_))
    refine Ev.step (fun k => by rw [jotterlaw17_DiffApart.j3]) ?_
    exact apart_l2 m n hm hn bad hb [] (by simp) (by simp) (by simp) 0 0 rfl
  · rw [if_neg h]
    refine Ev.neg h (Ev.pos rfl (Ev.pos (by rw [hOl]; omega) ?_))
    refine Ev.step (fun k => by rw [jotterlaw17_DiffApart.j3]) ?_
    exact apart_l2 m n hm hn bad hb O (by omega) (by omega) hOf _ 0 (Nat.zero_add _)
theorem apart_l1 (m n : Nat) (hm : m ≤ 512) (hn : n ≤ 512) (bad : Int) (hb : In8 bad) (d : Nat) : ∀ j : Nat, j + d = n → Ev (fun k => jotterlaw17_DiffApart.l1 k m n bad (ring 97 m) (ring 110 j) j) true := by
  induction d with
  | zero => intro j hj; obtain rfl : j = n := by omega
            exact apart_done m j hm hn bad hb
  | succ d ih =>
    intro j hj
    have rl := ring_length 110 j
    have e : (110 + ((Int.tmod (j : Int) 13))) % 256 = ((110 + j % 13 : Nat) : Int) := by
      have : Int.tmod (j : Int) 13 = ((j % 13 : Nat) : Int) := rfl
      rw [this]
      omega
    refine Ev.step (fun k => by rw [jotterlaw17_DiffApart.l1]) (Ev.pos (by omega) (Ev.pos (by omega) ?_))
    rw [e, ring_push, wrap_in (by omega) (by omega)]
    exact ih (j + 1) (by omega)
theorem apart_l0 (m n : Nat) (hm : m ≤ 512) (hn : n ≤ 512) (bad : Int) (hb : In8 bad) (d : Nat) : ∀ i : Nat, i + d = m → Ev (fun k => jotterlaw17_DiffApart.l0 k m n bad (ring 97 i) i) true := by
  induction d with
  | zero =>
    intro i hi
    obtain rfl : i = m := by omega
    refine Ev.step (fun k => by rw [jotterlaw17_DiffApart.l0]) (Ev.neg (by omega) ?_)
    exact apart_l1 i n hm hn bad hb n 0 (Nat.zero_add _)
  | succ d ih =>
    intro i hi
    have rl := ring_length 97 i
    have e : (97 + ((Int.tmod (i : Int) 13))) % 256 = ((97 + i % 13 : Nat) : Int) := by
      have : Int.tmod (i : Int) 13 = ((i % 13 : Nat) : Int) := rfl
      rw [this]
      omega
    refine Ev.step (fun k => by rw [jotterlaw17_DiffApart.l0]) (Ev.pos (by omega) (Ev.pos (by omega) ?_))
    rw [e, ring_push, wrap_in (by omega) (by omega)]
    exact ih (i + 1) (by omega)
theorem into_f (a : Int) : ∃ m : Nat, m ≤ 512 ∧ jotterlaw17_into.f a 513 = some (m : Int) := by
  have t1 := Int.tmod_lt_of_pos a (show (0 : Int) < 513 by omega)
  have t2 : -513 < Int.tmod a 513 := Int.lt_tmod_of_pos a (by omega)
  unfold jotterlaw17_into.f
  rw [if_neg (by omega)]
  by_cases h : Int.tmod a 513 < 0
  · rw [if_pos h, wrap_in (by omega) (by omega)]
    exact ⟨(Int.tmod a 513 + 513).toNat, by omega, by congr 1; omega⟩
  · rw [if_neg h]
    exact ⟨(Int.tmod a 513).toNat, by omega, by congr 1; omega⟩
theorem DiffApart (a b c : Int) (hc : In8 c) : ∃ k, jotterlaw17_DiffApart.f k a b c = some true := by
  obtain ⟨m, hm, e1⟩ := into_f a
  obtain ⟨n, hn, e2⟩ := into_f b
  refine Ev.rounds (g := fun k => jotterlaw17_DiffApart.f k a b c) ?_
  unfold jotterlaw17_DiffApart.f
  rw [e1, e2]
  simp only [Option.bind_some]
  exact apart_l0 m n hm hn c hc m 0 (Nat.zero_add _)
end Go.Proofs.Ytjnciljimacblaa.Pure
