/- (*rows).walk with Common's three function values: the walk. Laid by a program of this session (mkwalk30.py). No condition but the lengths. -/
import Derived.Test.YtjnciljimacblaaHK
import Derived.Deep.QuietTactic
import Derived.BigQuiet
namespace Go.Proofs.Ytjnciljimacblaa.Q
open Go.RowKit Go.Proofs.YtjnciljimacblaaW.PrintWords Go.Proofs.YtjnciljimacblaaW.PrintLast Go.Proofs.YtjnciljimacblaaW.PrintMore
set_option linter.unusedVariables false
set_option linter.unusedSimpArgs false
set_option maxRecDepth 100000
set_option maxHeartbeats 4000000 in
theorem walk30 (w0 W : World) (g gk : Nat) (a b : ByteArray) (ha : a.size ≤ 512) (hb : b.size ≤ 512) (h : CInv w0 g gk a b [] W) :
    Calls Try.prog 30 #[.pointer (some ⟨g, 0, none⟩), .string a, .string b, .func (.func 31) #[] #[.pointer (some ⟨gk, 0, none⟩)], .func (.func 32) #[] #[], .func (.func 33) #[] #[]] W fun e w' => e = .returned (.tuple #[]) ∧ CInv w0 g gk a b (keptI a b 0 0) w' := by
  have HI := Aside0.mk h
  clear h
  go_enter Try.func30, Try.ntmps30
  go_wp2
  go_loopw [12, 13] (fun v12 v13 wr => ∃ (i j : Nat) (xs : List Int), i ≤ a.size ∧ j ≤ b.size ∧ v12 = .int .i64 i ∧ v13 = .int .i64 j ∧ Aside0 (xs ++ keptI a b i j = keptI a b 0 0 ∧ xs.length ≤ i) ∧ Aside0 (CInv w0 g gk a b xs wr)) (fun v12 v13 _ => (a.size - (intOf v12).toNat) + (b.size - (intOf v13).toNat))
  case atStart => exact ⟨0, 0, [], Nat.zero_le _, Nat.zero_le _, rfl, rfl, ⟨⟨rfl, Nat.le_refl _⟩⟩, HI⟩
  case round =>
    clear HI
    obtain ⟨i, j, xs, hi, hj, rfl, rfl, HS, HI⟩ := hrel
    have q1 : IntKind.i64.wrap ((i : Int) + 1) = (i : Int) + 1 := wrap_small _ (by omega) (by omega)
    have q2 : IntKind.i64.wrap ((j : Int) + 1) = (j : Int) + 1 := wrap_small _ (by omega) (by omega)
    obtain ⟨ca, hca⟩ : ∃ ca : Int, ∀ h : i < a.size, ((a[i]'h).toNat : Int) = ca := by
      by_cases h : i < a.size
      · exact ⟨((a[i]'h).toNat : Int), fun _ => rfl⟩
      · exact ⟨0, fun h2 => absurd h2 h⟩
    obtain ⟨cb, hcb⟩ : ∃ cb : Int, ∀ h : j < b.size, ((b[j]'h).toNat : Int) = cb := by
      by_cases h : j < b.size
      · exact ⟨((b[j]'h).toNat : Int), fun _ => rfl⟩
      · exact ⟨0, fun h2 => absurd h2 h⟩
    have d1 := HI.out.tab.cell (j := (if i < a.size then i + 1 else 0) * 513 + j) (by split <;> omega)
    have d2 := HI.out.tab.cell (j := i * 513 + j) (by omega)
    rw [FO_at a b (by omega)] at d1 d2
    by_cases hia : i < a.size
    · rw [if_pos hia] at d1
      obtain ⟨x1, hx1⟩ : ∃ x, x = TT a b (i + 1) j := ⟨_, rfl⟩
      obtain ⟨x2, hx2⟩ : ∃ x, x = TT a b i j := ⟨_, rfl⟩
      rw [← hx1] at d1
      rw [← hx2] at d2
      have HX := Aside0.mk (And.intro hx1 hx2)
      clear hx1 hx2
      have b1 : (0 : Int) ≤ (i : Int) + 1 ∧ (i : Int) + 1 < 513 := by omega
      have b2 : (0 : Int) ≤ (j : Int) ∧ (j : Int) < 513 := by omega
      have b3 : (0 : Int) ≤ (i : Int) ∧ (i : Int) < 513 := by omega
      have b5 : (0 : Int) ≤ (i : Int) ∧ (i : Int) < (a.size : Int) := by omega
      have ui : decide ((i : Int) < (a.size : Int)) = true := decide_eq_true (by omega)
      by_cases hjb : j < b.size
      · have b6 : (0 : Int) ≤ (j : Int) ∧ (j : Int) < (b.size : Int) := by omega
        have uj : decide ((j : Int) < (b.size : Int)) = true := decide_eq_true (by omega)
        have HQ : Aside0 (ca = cb ↔ a[i] = b[j]) := ⟨by
          rw [← hca hia, ← hcb hjb]
          constructor
          · intro e; exact UInt8.toNat_inj.1 (by omega)
          · intro e; rw [e]⟩
        have HK := Aside0.mk (keptI_step a b hia hjb)
        by_cases hq : ca = cb
        · have hq1 : (ca == cb) = true := by rw [hq]; exact beq_self_eq_true _
          have HK2 : Aside0 ((xs ++ [ca]) ++ keptI a b (i + 1) (j + 1) = keptI a b 0 0 ∧ (xs ++ [ca]).length ≤ i + 1) := ⟨by
            have h1 := HS.out.1
            rw [HK.out, if_pos (HQ.out.1 hq), hca hia] at h1
            exact ⟨by rw [List.append_assoc]; exact h1, by have := HS.out.2; simp; omega⟩⟩
          clear hq HK HQ d1 d2
          go_wp2
          go_quiet (fail)
          have n_ := Aside0.mk (HI.out.drew nq)
          clear HI
          have HI := n_
          clear n_
          generalize wr.drewN nq = w2 at HI ⊢
          go_wp2_with (go_at_call 31; refine (keep31 w0 _ g gk a b xs ca HI.out (by have := HS.out.2; omega)).mono ?_; rintro e w3 ⟨rfl, h3⟩; have n_ := Aside0.mk h3; clear h3 HI; have HI := n_; clear n_)
          go_roundw
          case rel => exact ⟨i + 1, j + 1, xs ++ [ca], by omega, by omega, by go_num, by go_num, HK2, HI⟩
          case measure => simp [intOf]; omega
        · have hq1 : (ca == cb) = false := by simpa using hq
          by_cases ht : x1 = x2
          · have ht1 : (x1 == x2) = true := by rw [ht]; exact beq_self_eq_true _
            have HK2 : Aside0 (xs ++ keptI a b (i + 1) j = keptI a b 0 0 ∧ xs.length ≤ i + 1) := ⟨by
              have h1 := HS.out.1
              rw [HK.out, if_neg (fun e => hq (HQ.out.2 e)), if_pos (by rw [← HX.out.1, ← HX.out.2, ht])] at h1
              exact ⟨h1, by have := HS.out.2; omega⟩⟩
            clear hq ht HK HQ
            go_wp2
            go_quiet (fail)
            have n_ := Aside0.mk (HI.out.drew nq)
            clear HI
            have HI := n_
            clear n_
            generalize wr.drewN nq = w2 at HI ⊢
            have d1 := HI.out.tab.cell (j := (i + 1) * 513 + j) (by omega)
            have d2 := HI.out.tab.cell (j := i * 513 + j) (by omega)
            rw [FO_at a b (by omega)] at d1 d2
            rw [← HX.out.1] at d1
            rw [← HX.out.2] at d2
            go_wp2
            go_quiet (fail)
            have n_ := Aside0.mk (HI.out.drew nq)
            clear HI
            have HI := n_
            clear n_
            generalize w2.drewN nq = w3 at HI ⊢
            go_wp2_with (go_at_call 32; refine (keep32 _).mono ?_; rintro e w3 ⟨rfl, rfl⟩)
            go_roundw
            case rel => exact ⟨i + 1, j, xs, by omega, by omega, by go_num, by go_num, HK2, HI⟩
            case measure => simp [intOf]; omega
          · have ht1 : (x1 == x2) = false := by simpa using ht
            have HK2 : Aside0 (xs ++ keptI a b i (j + 1) = keptI a b 0 0 ∧ xs.length ≤ i) := ⟨by
              have h1 := HS.out.1
              rw [HK.out, if_neg (fun e => hq (HQ.out.2 e)), if_neg (by rw [← HX.out.1, ← HX.out.2]; exact ht)] at h1
              exact ⟨h1, HS.out.2⟩⟩
            clear hq ht HK HQ
            go_wp2
            go_quiet (fail)
            have n_ := Aside0.mk (HI.out.drew nq)
            clear HI
            have HI := n_
            clear n_
            generalize wr.drewN nq = w2 at HI ⊢
            have d1 := HI.out.tab.cell (j := (i + 1) * 513 + j) (by omega)
            have d2 := HI.out.tab.cell (j := i * 513 + j) (by omega)
            rw [FO_at a b (by omega)] at d1 d2
            rw [← HX.out.1] at d1
            rw [← HX.out.2] at d2
            go_wp2
            go_quiet (fail)
            have n_ := Aside0.mk (HI.out.drew nq)
            clear HI
            have HI := n_
            clear n_
            generalize w2.drewN nq = w3 at HI ⊢
            go_wp2_with (go_at_call 33; refine (keep33 _ cb).mono ?_; rintro e w3 ⟨rfl, rfl⟩)
            go_roundw
            case rel => exact ⟨i, j + 1, xs, by omega, by omega, by go_num, by go_num, HK2, HI⟩
            case measure => simp [intOf]; omega
      · have HJ := Aside0.mk hjb
        have ht1 : (x1 == x2) = true := by
          rw [HX.out.1, HX.out.2, TT_end2 a b (i + 1) (by omega), TT_end2 a b i (by omega)]
          rfl
        have uj : decide ((j : Int) < (b.size : Int)) = false := decide_eq_false (by omega)
        have HK2 : Aside0 (xs ++ keptI a b (i + 1) j = keptI a b 0 0 ∧ xs.length ≤ i + 1) := ⟨by
          have h1 := HS.out.1
          rw [keptI_end2 a b i j (by omega)] at h1
          exact ⟨by rw [keptI_end2 a b (i + 1) j (by omega)]; exact h1, by have := HS.out.2; omega⟩⟩
        go_wp2
        go_quiet (fail)
        have n_ := Aside0.mk (HI.out.drew nq)
        clear HI
        have HI := n_
        clear n_
        generalize wr.drewN nq = w2 at HI ⊢
        have d1 := HI.out.tab.cell (j := (i + 1) * 513 + j) (by omega)
        have d2 := HI.out.tab.cell (j := i * 513 + j) (by omega)
        rw [FO_at a b (by omega)] at d1 d2
        rw [← HX.out.1] at d1
        rw [← HX.out.2] at d2
        go_wp2
        go_quiet (fail)
        have n_ := Aside0.mk (HI.out.drew nq)
        clear HI
        have HI := n_
        clear n_
        generalize w2.drewN nq = w3 at HI ⊢
        go_wp2_with (go_at_call 32; refine (keep32 _).mono ?_; rintro e w3 ⟨rfl, rfl⟩)
        go_roundw
        case rel => exact ⟨i + 1, j, xs, by omega, by omega, by go_num, by go_num, HK2, HI⟩
        case measure => simp [intOf]; omega
    · clear d1 d2
      have ui : decide ((i : Int) < (a.size : Int)) = false := decide_eq_false (by omega)
      by_cases hjb : j < b.size
      · have b6 : (0 : Int) ≤ (j : Int) ∧ (j : Int) < (b.size : Int) := by omega
        have uj : decide ((j : Int) < (b.size : Int)) = true := decide_eq_true (by omega)
        have HK2 : Aside0 (xs ++ keptI a b i (j + 1) = keptI a b 0 0 ∧ xs.length ≤ i) := ⟨by
          have h1 := HS.out.1
          rw [keptI_end1 a b i j (by omega)] at h1
          exact ⟨by rw [keptI_end1 a b i (j + 1) (by omega)]; exact h1, HS.out.2⟩⟩
        go_wp2
        go_quiet (fail)
        have n_ := Aside0.mk (HI.out.drew nq)
        clear HI
        have HI := n_
        clear n_
        generalize wr.drewN nq = w2 at HI ⊢
        go_wp2
        go_quiet (fail)
        have n_ := Aside0.mk (HI.out.drew nq)
        clear HI
        have HI := n_
        clear n_
        generalize w2.drewN nq = w3 at HI ⊢
        go_wp2_with (go_at_call 33; refine (keep33 _ cb).mono ?_; rintro e w3 ⟨rfl, rfl⟩)
        go_roundw
        case rel => exact ⟨i, j + 1, xs, by omega, by omega, by go_num, by go_num, HK2, HI⟩
        case measure => simp [intOf]; omega
      · have HK2 : Aside0 (xs = keptI a b 0 0) := ⟨by
          have h1 := HS.out.1
          rw [keptI_end1 a b i j (by omega), List.append_nil] at h1
          exact h1⟩
        have uj : decide ((j : Int) < (b.size : Int)) = false := decide_eq_false (by omega)
        go_wp2
        first | go_end0 | ((try simp only [Exit.inBlock, Exit.then]); refine bodyPost_ret (results_none rfl _ _ _) rfl ?_)
        exact ⟨rfl, by rw [← HK2.out]; exact HI.out⟩
end Go.Proofs.Ytjnciljimacblaa.Q
