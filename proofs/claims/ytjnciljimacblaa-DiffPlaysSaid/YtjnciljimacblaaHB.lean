/- diff.measured: the walk. No condition. -/
import Derived.Test.YtjnciljimacblaaHZ
import Derived.Test.YtjnciljimacblaaHM
import Derived.Laws.Tables
import Derived.StillTailTactics
import Derived.Deep.QuietTactic
import Derived.BigQuiet
namespace Go.Proofs.Ytjnciljimacblaa.Q
open Go.RowKit Go.Proofs.YtjnciljimacblaaW.PrintWords Go.Proofs.YtjnciljimacblaaW.PrintLast Go.Proofs.YtjnciljimacblaaW.PrintMore
set_option linter.unusedVariables false
set_option linter.unusedSimpArgs false
set_option maxRecDepth 100000
theorem inf87 : Try.prog.info? 87 = some Try.t87 := by kernel_rfl
theorem inf68 : (Try.prog.info? 68).map (fun i => i.size) = some 513 := by kernel_rfl
theorem inf67 : (Try.prog.info? 67).map (fun i => i.size) = some 1 := by kernel_rfl
theorem zero87_run (W : World) : (zeroValue 87).run Try.prog W = .ok (.agg (zR 263169).toArray) W := by
  have h : (typeInfo 87).run Try.prog W = .ok Try.t87 W := run_typeInfo W inf87
  unfold zeroValue
  simp only [Sem.run_bind, h, Result.andThen_ok, zero87]
  rfl
def checkE (a b : ByteArray) : Int :=
  if (512 : Int) < (if a.size < b.size then (b.size : Int) else (a.size : Int)) then 170 else (if plainE a < plainE b then plainE b else plainE a)
/-- The length of a longest common part of what is left of a from i on and of b from j on. -/
def TT (a b : ByteArray) (i j : Nat) : Int := (JotDiff.lcs (a.data.toList.drop i) (b.data.toList.drop j) : Nat)
def FO (a b : ByteArray) (i p : Nat) : Int := if i ≤ p / 513 then TT a b (p / 513) (p % 513) else 0
def FI (a b : ByteArray) (i j p : Nat) : Int := if i < p / 513 ∨ (p / 513 = i ∧ j ≤ p % 513) then TT a b (p / 513) (p % 513) else 0
theorem TT_end1 (a b : ByteArray) {i : Nat} (j : Nat) (h : a.size ≤ i) : TT a b i j = 0 := by
  unfold TT
  rw [List.drop_of_length_le (by rw [data_length]; exact h), JotDiff.lcs_nil_left]
  rfl
theorem TT_end2 (a b : ByteArray) (i : Nat) {j : Nat} (h : b.size ≤ j) : TT a b i j = 0 := by
  unfold TT
  rw [List.drop_of_length_le (l := b.data.toList) (by rw [data_length]; exact h), JotDiff.lcs_nil_right]
  rfl
theorem TT_step (a b : ByteArray) {i j : Nat} (hi : i < a.size) (hj : j < b.size) : TT a b i j = if a[i] = b[j] then TT a b (i + 1) (j + 1) + 1 else max (TT a b (i + 1) j) (TT a b i (j + 1)) := by
  have h1 : i < a.data.toList.length := by rw [data_length]; exact hi
  have h2 : j < b.data.toList.length := by rw [data_length]; exact hj
  have e1 : a.data.toList[i] = a[i] := rfl
  have e2 : b.data.toList[j] = b[j] := rfl
  unfold TT
  rw [List.drop_eq_getElem_cons h1, List.drop_eq_getElem_cons h2, JotDiff.lcs_cons, e1, e2]
  by_cases e : a[i] = b[j]
  · rw [if_pos e, if_pos e]; rfl
  · rw [if_neg e, if_neg e]
    rw [← e1, ← e2, ← List.drop_eq_getElem_cons h1, ← List.drop_eq_getElem_cons h2]
    omega
theorem TT_range (a b : ByteArray) (i j : Nat) (ha : a.size ≤ 512) : 0 ≤ TT a b i j ∧ TT a b i j ≤ 512 := by
  unfold TT
  have := JotDiff.lcs_le_left (a.data.toList.drop i) (b.data.toList.drop j)
  rw [List.length_drop, data_length] at this
  omega
theorem FI_start (a b : ByteArray) (i p : Nat) : FO a b (i + 1) p = FI a b i b.size p := by
  unfold FO FI
  by_cases h : i + 1 ≤ p / 513
  · rw [if_pos h, if_pos (by omega)]
  · rw [if_neg h]
    by_cases h2 : p / 513 = i ∧ b.size ≤ p % 513
    · rw [if_pos (.inr h2), TT_end2 a b _ h2.2]
    · rw [if_neg (by omega)]
theorem FI_end (a b : ByteArray) (i p : Nat) : FI a b i 0 p = FO a b i p := by
  unfold FO FI
  by_cases h : i ≤ p / 513
  · rw [if_pos h, if_pos (by omega)]
  · rw [if_neg h, if_neg (by omega)]
theorem FI_p1 (a b : ByteArray) (i j : Nat) (hj : j < 513) : FI a b i (j + 1) ((i + 1) * 513 + j) = TT a b (i + 1) j := by
  unfold FI
  rw [show ((i + 1) * 513 + j) / 513 = i + 1 by omega, show ((i + 1) * 513 + j) % 513 = j by omega, if_pos (.inl (by omega))]
theorem FI_p2 (a b : ByteArray) (i j : Nat) (hj : j + 1 < 513) : FI a b i (j + 1) (i * 513 + (j + 1)) = TT a b i (j + 1) := by
  unfold FI
  rw [show (i * 513 + (j + 1)) / 513 = i by omega, show (i * 513 + (j + 1)) % 513 = j + 1 by omega, if_pos (.inr ⟨rfl, Nat.le_refl _⟩)]
theorem FI_p3 (a b : ByteArray) (i j : Nat) (hj : j + 1 < 513) : FI a b i (j + 1) ((i + 1) * 513 + (j + 1)) = TT a b (i + 1) (j + 1) := by
  unfold FI
  rw [show ((i + 1) * 513 + (j + 1)) / 513 = i + 1 by omega, show ((i + 1) * 513 + (j + 1)) % 513 = j + 1 by omega, if_pos (.inl (by omega))]
theorem FI_set (a b : ByteArray) (i j p : Nat) (hj : j < 513) : (if p = i * 513 + j then TT a b i j else FI a b i (j + 1) p) = FI a b i j p := by
  unfold FI
  by_cases e : p = i * 513 + j
  · have h1 : p / 513 = i := by omega
    have h2 : p % 513 = j := by omega
    rw [if_pos e, if_pos (.inr ⟨h1, by omega⟩), h1, h2]
  · rw [if_neg e]
    have h : (p / 513 = i ∧ j + 1 ≤ p % 513) ↔ (p / 513 = i ∧ j ≤ p % 513) := by omega
    simp only [h]
theorem blk_zero {W : World} {g : Nat} {Z : Array Value} (h : W.heap[g]? = some (.cells Z 87 (0, 0))) (hZ : Z = (zR 263169).toArray) (a b : ByteArray) : BlkI .i16 W g 87 263169 (FO a b a.size) := by
  have hs : Z.size = 263169 := by rw [hZ, List.size_toArray]; unfold zR; exact List.length_replicate
  refine ⟨(Array.getElem?_eq_some_iff.1 h).1, Z, (0, 0), h, .inl rfl, by omega, fun j hj => ?_⟩
  have e : FO a b a.size j = 0 := by
    unfold FO
    by_cases h : a.size ≤ j / 513
    · rw [if_pos h, TT_end1 a b _ h]
    · rw [if_neg h]
  rw [e, hZ]
  rw [List.getElem?_toArray]
  unfold zR
  rw [List.getElem?_replicate, if_pos hj]
attribute [local go_sem] max2_int min2_int max_two min_two max_three min_three max_four min_four
set_option maxHeartbeats 4000000 in
theorem measured_calls (a b : ByteArray) (w : World) (hE : checkE a b = 0) : Calls Try.prog 29 #[.string a, .string b] w fun e w' => ∃ g, e = .returned (.tuple #[.pointer (some ⟨g, 0, none⟩), .int .i64 0]) ∧ w.heap.size ≤ g ∧ BlkI .i16 w' g 87 263169 (FO a b 0) ∧ Below w.heap.size w w' := by
  obtain ⟨M, hM⟩ : ∃ M, (if a.size < b.size then (b.size : Int) else (a.size : Int)) = M := ⟨_, rfl⟩
  obtain ⟨E, hE2⟩ : ∃ E, (if plainE a < plainE b then plainE b else plainE a) = E := ⟨_, rfl⟩
  have h1 : ¬ (512 : Int) < M ∧ E = 0 := by
    unfold checkE at hE
    rw [hM, hE2] at hE
    by_cases h : (512 : Int) < M
    · rw [if_pos h] at hE; cases hE
    · rw [if_neg h] at hE; exact ⟨h, hE⟩
  obtain ⟨hM5, rfl⟩ := h1
  have ha : a.size ≤ 512 := by split at hM <;> omega
  have hb : b.size ≤ 512 := by split at hM <;> omega
  have t1 : decide ((512 : Int) < M) = false := decide_eq_false hM5
  obtain ⟨Z, hZ⟩ : ∃ Z, Z = (zR 263169).toArray := ⟨_, rfl⟩
  have hz87 : ∀ W : World, (zeroValue 87).run Try.prog W = .ok (.agg Z) W := fun W => by rw [hZ]; exact zero87_run W
  have HZ := Aside0.mk hZ
  have HB := Aside0.mk (Below.refl w.heap.size w)
  clear hZ hE
  go_enter Try.func29, Try.ntmps29
  go_wp2_with (first
    | ((with_reducible refine gate_dst (N := 17) rfl ?_); refine goesL_ (some 17) rfl rfl Try.func43 (by kernel_rfl) rfl #[.string a] rfl (by (try simp only [List.map_toArray, List.map_cons, List.map_nil]); first | done | rfl) ?_; refine (plainE_calls a _).mono ?_; rintro e w1 ⟨rfl, hbl⟩; refine ⟨_, rfl, ?_⟩; have n_ := Aside0.mk (below_step HB.out hbl); clear HB hbl; have HB := n_; clear n_)
    | ((with_reducible refine gate_dst (N := 19) rfl ?_); refine goesL_ (some 19) rfl rfl Try.func43 (by kernel_rfl) rfl #[.string b] rfl (by (try simp only [List.map_toArray, List.map_cons, List.map_nil]); first | done | rfl) ?_; refine (plainE_calls b _).mono ?_; rintro e w2 ⟨rfl, hbl⟩; refine ⟨_, rfl, ?_⟩; have n_ := Aside0.mk (below_step HB.out hbl); clear HB hbl; have HB := n_; clear n_)
    | ((with_reducible refine gate_dst (N := 25) rfl ?_); refine box_event ?hg (N := 25) ?hd (cs := Z) (t := 87) ?hr ?_; (case hd => rfl); (case hg => rfl); (case hr => first | (go_simp; done) | (go_simp; rfl)); intro gb hg wx hbox hbl; have GB : Aside0 (w.heap.size ≤ gb) := ⟨by rw [hg]; exact HB.out.size⟩; have HT : Aside0 (BlkI .i16 wx gb 87 263169 (FO a b a.size)) := ⟨blk_zero hbox HZ.out a b⟩; have n_ := Aside0.mk (below_step HB.out hbl); clear HB hbl hbox hg; have HB := n_; clear n_))
  clear hz87 HZ hM hE2 t1 hM5
  go_loopw [8, 9] (fun v8 _ wr => ∃ i : Nat, i ≤ a.size ∧ v8 = .int .i64 ((i : Int) - 1) ∧ Aside0 (BlkI .i16 wr gb 87 263169 (FO a b i)) ∧ Aside0 (Below w.heap.size w wr)) (fun v8 _ _ => (intOf v8 + 1).toNat)
  case atStart => exact ⟨a.size, Nat.le_refl _, rfl, HT, HB⟩
  case round =>
    clear HT HB
    obtain ⟨i, hi, hv8, HT, HB⟩ := hrel
    cases i with
    | zero =>
      replace hv8 := hv8.trans (show Value.int .i64 (((0 : Nat) : Int) - 1) = .int .i64 (-1) from rfl)
      subst hv8
      go_wp2
      go_ret2
      exact ⟨gb, rfl, GB.out, HT.out, HB.out⟩
    | succ I =>
      replace hv8 := hv8.trans (show Value.int .i64 (((I + 1 : Nat) : Int) - 1) = .int .i64 (I : Int) by rw [show ((I + 1 : Nat) : Int) - 1 = (I : Int) by omega])
      subst hv8
      have hT2 := Aside0.mk (HT.out.congr (fun p _ => FI_start a b I p))
      clear HT
      go_wp2
      go_loopw [9] (fun v9 wr => ∃ j : Nat, j ≤ b.size ∧ v9 = .int .i64 ((j : Int) - 1) ∧ Aside0 (BlkI .i16 wr gb 87 263169 (FI a b I j)) ∧ Aside0 (Below w.heap.size w wr)) (fun v9 _ => (intOf v9 + 1).toNat)
      case atStart => exact ⟨b.size, Nat.le_refl _, rfl, hT2, HB⟩
      case round =>
        clear hT2 HB
        obtain ⟨j, hj, hv9, HT, HB⟩ := hrel
        cases j with
        | zero =>
          replace hv9 := hv9.trans (show Value.int .i64 (((0 : Nat) : Int) - 1) = .int .i64 (-1) from rfl)
          subst hv9
          have hT2 := Aside0.mk (HT.out.congr (fun p _ => FI_end a b I p))
          clear HT
          go_wp2
          go_roundw
          case rel => exact ⟨I, by omega, rfl, hT2, HB⟩
          case measure => simp [intOf]
        | succ J =>
          replace hv9 := hv9.trans (show Value.int .i64 (((J + 1 : Nat) : Int) - 1) = .int .i64 (J : Int) by rw [show ((J + 1 : Nat) : Int) - 1 = (J : Int) by omega])
          subst hv9
          have c1 := HT.out.cell (j := (I + 1) * 513 + J) (by omega)
          have c2 := HT.out.cell (j := I * 513 + (J + 1)) (by omega)
          have f0 := HT.out.frozen (j := I * 513 + J) (by omega)
          rw [FI_p1 a b I J (by omega)] at c1
          rw [FI_p2 a b I J (by omega)] at c2
          obtain ⟨x1, hx1⟩ : ∃ x, x = TT a b (I + 1) J := ⟨_, rfl⟩
          obtain ⟨x2, hx2⟩ : ∃ x, x = TT a b I (J + 1) := ⟨_, rfl⟩
          rw [← hx1] at c1
          rw [← hx2] at c2
          obtain ⟨X, hX⟩ : ∃ X, (if x1 < x2 then x2 else x1) = X := ⟨_, rfl⟩
          have HX : Aside0 (X = max (TT a b (I + 1) J) (TT a b I (J + 1))) := ⟨by rw [← hX, ← hx1, ← hx2]; split <;> omega⟩
          clear hx1 hx2
          have q1 : IntKind.i64.wrap ((I : Int) + 1) = (I : Int) + 1 := wrap_small _ (by omega) (by omega)
          have q2 : IntKind.i64.wrap ((J : Int) + 1) = (J : Int) + 1 := wrap_small _ (by omega) (by omega)
          have b1 : (0 : Int) ≤ (I : Int) + 1 ∧ (I : Int) + 1 < 513 := by omega
          have b2 : (0 : Int) ≤ (J : Int) + 1 ∧ (J : Int) + 1 < 513 := by omega
          have b3 : (0 : Int) ≤ (I : Int) ∧ (I : Int) < 513 := by omega
          have b4 : (0 : Int) ≤ (J : Int) ∧ (J : Int) < 513 := by omega
          go_wp2
          go_still_tail 23, (by kernel_rfl)
          change wpList _ _ _ _ _ wr.drew
          have HT2 : Aside0 (BlkI .i16 wr.drew gb 87 263169 (FI a b I (J + 1))) := ⟨HT.out.of_block (Nat.le_refl _) rfl⟩
          have HB2 : Aside0 (Below w.heap.size w wr.drew) := ⟨below_drew1 HB.out⟩
          clear HT HB c1 c2 f0
          generalize wr.drew = w3 at HT2 HB2 ⊢
          have f0 := HT2.out.frozen (j := I * 513 + J) (by omega)
          have c0 := HT2.out.cell (j := I * 513 + J) (by omega)
          have HT3 := Aside0.mk (HT2.out.set (j := I * 513 + J) (by omega) X)
          have HB3 := Aside0.mk (blk_below_set HB2.out GB.out (I * 513 + J) (.int .i16 X))
          go_wp2
          clear HT2 HB2 hX c0 f0
          generalize w3.setCell ⟨gb, I * 513 + J, none⟩ (.int .i16 X) = w4 at HT3 HB3 ⊢
          have hIa : I < a.size := by omega
          have hJb : J < b.size := by omega
          obtain ⟨ca, hca⟩ : ∃ ca : Int, ∀ h : I < a.size, ((a[I]'h).toNat : Int) = ca := ⟨((a[I]'hIa).toNat : Int), fun _ => rfl⟩
          obtain ⟨cb, hcb⟩ : ∃ cb : Int, ∀ h : J < b.size, ((b[J]'hJb).toNat : Int) = cb := ⟨((b[J]'hJb).toNat : Int), fun _ => rfl⟩
          have HQ : Aside0 (ca = cb ↔ a[I] = b[J]) := ⟨by
            rw [← hca hIa, ← hcb hJb]
            constructor
            · intro e; exact UInt8.toNat_inj.1 (by omega)
            · intro e; rw [e]⟩
          have b5 : (0 : Int) ≤ (I : Int) ∧ (I : Int) < (a.size : Int) := by omega
          have b6 : (0 : Int) ≤ (J : Int) ∧ (J : Int) < (b.size : Int) := by omega
          go_quiet (fail)
          have HT5 : Aside0 (BlkI .i16 (w4.drewN nq) gb 87 263169 (fun q => if q = I * 513 + J then X else FI a b I (J + 1) q)) := ⟨HT3.out.of_block (Nat.le_refl _) rfl⟩
          have HB5 : Aside0 (Below w.heap.size w (w4.drewN nq)) := ⟨by apply pw_below_drewN; exact HB3.out⟩
          clear HT3 HB3 hca hcb
          generalize w4.drewN nq = w5 at HT5 HB5 ⊢
          have HS := Aside0.mk (TT_step a b hIa hJb)
          by_cases hq : ca = cb
          · have hq1 : (ca == cb) = true := by rw [hq]; exact beq_self_eq_true _
            have HS2 : Aside0 (TT a b I J = TT a b (I + 1) (J + 1) + 1) := ⟨by rw [HS.out, if_pos (HQ.out.1 hq)]⟩
            have c3 := HT5.out.cell (j := (I + 1) * 513 + (J + 1)) (by omega)
            have f3 := HT5.out.frozen (j := I * 513 + J) (by omega)
            rw [if_neg (by omega), FI_p3 a b I J (by omega)] at c3
            have hr := TT_range a b (I + 1) (J + 1) ha
            obtain ⟨x3, hx3⟩ : ∃ x, x = TT a b (I + 1) (J + 1) := ⟨_, rfl⟩
            rw [← hx3] at c3 hr
            have HX3 := Aside0.mk hx3
            have q3 : IntKind.i16.wrap (x3 + 1) = x3 + 1 := by
              have e1 : IntKind.i16.bits = 16 := rfl
              have e2 : IntKind.i16.signed = true := rfl
              simp only [IntKind.wrap, e1, e2]
              simp
              omega
            clear hq hx3 HS HQ
            go_wp2
            go_still_tail 16, (by kernel_rfl)
            change wpList _ _ _ _ _ w5.drew
            have HT6 : Aside0 (BlkI .i16 w5.drew gb 87 263169 (fun q => if q = I * 513 + J then X else FI a b I (J + 1) q)) := ⟨HT5.out.of_block (Nat.le_refl _) rfl⟩
            have HB6 : Aside0 (Below w.heap.size w w5.drew) := ⟨below_drew1 HB5.out⟩
            clear HT5 HB5 c3 f3
            generalize w5.drew = w6 at HT6 HB6 ⊢
            have f0 := HT6.out.frozen (j := I * 513 + J) (by omega)
            have c0 := HT6.out.cell (j := I * 513 + J) (by omega)
            have HT7 := Aside0.mk (HT6.out.set (j := I * 513 + J) (by omega) (x3 + 1))
            have HB7 := Aside0.mk (blk_below_set HB6.out GB.out (I * 513 + J) (.int .i16 (x3 + 1)))
            have HT8 : Aside0 (BlkI .i16 (w6.setCell ⟨gb, I * 513 + J, none⟩ (.int .i16 (x3 + 1))) gb 87 263169 (FI a b I J)) := ⟨HT7.out.congr (fun p hp => by
              rw [← FI_set a b I J p (by omega), HS2.out, ← HX3.out]
              by_cases e : p = I * 513 + J
              · rw [if_pos e, if_pos e]
              · rw [if_neg e, if_neg e, if_neg e])⟩
            clear HT6 HB6 HT7
            go_wp2
            go_roundw
            case rel => exact ⟨J, by omega, rfl, HT8, HB7⟩
            case measure => simp [intOf]
          · have hq1 : (ca == cb) = false := by simpa using hq
            have HS2 : Aside0 (TT a b I J = X) := ⟨by rw [HS.out, if_neg (fun e => hq (HQ.out.2 e)), HX.out]⟩
            have HT6 : Aside0 (BlkI .i16 w5 gb 87 263169 (FI a b I J)) := ⟨HT5.out.congr (fun p hp => by rw [← HS2.out]; exact FI_set a b I J p (by omega))⟩
            clear hq HS HQ HT5
            go_wp2
            go_roundw
            case rel => exact ⟨J, by omega, rfl, HT6, HB5⟩
            case measure => simp [intOf]
set_option maxHeartbeats 4000000 in
theorem measured_err (a b : ByteArray) (w : World) (hE : checkE a b ≠ 0) : Calls Try.prog 29 #[.string a, .string b] w fun e w' => e = .returned (.tuple #[.pointer none, .int .i64 (checkE a b)]) ∧ Below w.heap.size w w' := by
  obtain ⟨R, hR⟩ : ∃ R, checkE a b = R := ⟨_, rfl⟩
  rw [hR] at hE ⊢
  obtain ⟨M, hM⟩ : ∃ M, (if a.size < b.size then (b.size : Int) else (a.size : Int)) = M := ⟨_, rfl⟩
  obtain ⟨E, hE2⟩ : ∃ E, (if plainE a < plainE b then plainE b else plainE a) = E := ⟨_, rfl⟩
  unfold checkE at hR
  rw [hM, hE2] at hR
  have HB := Aside0.mk (Below.refl w.heap.size w)
  by_cases h5 : (512 : Int) < M
  · rw [if_pos h5] at hR
    have HR := Aside0.mk hR
    have t1 : decide ((512 : Int) < M) = true := decide_eq_true h5
    clear hR hE hE2 h5
    go_enter Try.func29, Try.ntmps29
    go_wp2
    go_ret2
    exact ⟨by rw [← HR.out]; rfl, HB.out⟩
  · rw [if_neg h5] at hR
    subst hR
    have t1 : decide ((512 : Int) < M) = false := decide_eq_false h5
    have t2 : (E == 0) = false := by simpa using hE
    have t3 : (E != 0) = true := by simpa using hE
    clear h5 hE
    go_enter Try.func29, Try.ntmps29
    go_wp2_with (first
      | ((with_reducible refine gate_dst (N := 17) rfl ?_); refine goesL_ (some 17) rfl rfl Try.func43 (by kernel_rfl) rfl #[.string a] rfl (by (try simp only [List.map_toArray, List.map_cons, List.map_nil]); first | done | rfl) ?_; refine (plainE_calls a _).mono ?_; rintro e w1 ⟨rfl, hbl⟩; refine ⟨_, rfl, ?_⟩; have n_ := Aside0.mk (below_step HB.out hbl); clear HB hbl; have HB := n_; clear n_)
      | ((with_reducible refine gate_dst (N := 19) rfl ?_); refine goesL_ (some 19) rfl rfl Try.func43 (by kernel_rfl) rfl #[.string b] rfl (by (try simp only [List.map_toArray, List.map_cons, List.map_nil]); first | done | rfl) ?_; refine (plainE_calls b _).mono ?_; rintro e w2 ⟨rfl, hbl⟩; refine ⟨_, rfl, ?_⟩; have n_ := Aside0.mk (below_step HB.out hbl); clear HB hbl; have HB := n_; clear n_))
    go_ret2
    exact ⟨rfl, HB.out⟩
end Go.Proofs.Ytjnciljimacblaa.Q
