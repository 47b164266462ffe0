/- (*rows).walk with Between's three function values: the walk. Laid by a program of this session (mkwalk30b.py). No condition but the lengths. -/
import Derived.Test.YtjnciljimacblaaHP
import Derived.Deep.QuietTactic
import Derived.BigQuiet
namespace Go.Proofs.Ytjnciljimacblaa.Q
open Go.RowKit Go.Proofs.YtjnciljimacblaaW.PrintWords Go.Proofs.YtjnciljimacblaaW.PrintLast Go.Proofs.YtjnciljimacblaaW.PrintMore
set_option linter.unusedVariables false
set_option linter.unusedSimpArgs false
set_option maxRecDepth 100000
/-- Between's operations. -/
def opsL (c f : Int) : List UInt8 → List UInt8 → Nat → Nat → List S38
  | [], [], _, _ => []
  | [], y :: ys, j, n => ⟨1, (j : Int), (y.toNat : Int), c, f + (n : Int)⟩ :: opsL c f [] ys (j + 1) (n + 1)
  | x :: xs, [], j, n => ⟨2, (j : Int), 0, c, f + (n : Int)⟩ :: opsL c f xs [] j (n + 1)
  | x :: xs, y :: ys, j, n => if x = y then opsL c f xs ys (j + 1) n else if JotDiff.lcs xs (y :: ys) = JotDiff.lcs (x :: xs) (y :: ys) then ⟨2, (j : Int), 0, c, f + (n : Int)⟩ :: opsL c f xs (y :: ys) j (n + 1) else ⟨1, (j : Int), (y.toNat : Int), c, f + (n : Int)⟩ :: opsL c f (x :: xs) ys (j + 1) (n + 1)
  termination_by a b => a.length + b.length
def opsI (c f : Int) (a b : ByteArray) (i j n : Nat) : List S38 := opsL c f (a.data.toList.drop i) (b.data.toList.drop j) j n
theorem ops_nil (c f : Int) (j n : Nat) : opsL c f [] [] j n = [] := by rw [opsL]
theorem ops_left (c f : Int) (y : UInt8) (ys : List UInt8) (j n : Nat) : opsL c f [] (y :: ys) j n = ⟨1, (j : Int), (y.toNat : Int), c, f + (n : Int)⟩ :: opsL c f [] ys (j + 1) (n + 1) := by rw [opsL]
theorem ops_right (c f : Int) (x : UInt8) (xs : List UInt8) (j n : Nat) : opsL c f (x :: xs) [] j n = ⟨2, (j : Int), 0, c, f + (n : Int)⟩ :: opsL c f xs [] j (n + 1) := by rw [opsL]
theorem ops_cons (c f : Int) (x y : UInt8) (xs ys : List UInt8) (j n : Nat) : opsL c f (x :: xs) (y :: ys) j n = if x = y then opsL c f xs ys (j + 1) n else if JotDiff.lcs xs (y :: ys) = JotDiff.lcs (x :: xs) (y :: ys) then ⟨2, (j : Int), 0, c, f + (n : Int)⟩ :: opsL c f xs (y :: ys) j (n + 1) else ⟨1, (j : Int), (y.toNat : Int), c, f + (n : Int)⟩ :: opsL c f (x :: xs) ys (j + 1) (n + 1) := by rw [opsL]
theorem opsI_end (c f : Int) (a b : ByteArray) {i j : Nat} (hi : a.size ≤ i) (hj : b.size ≤ j) (n : Nat) : opsI c f a b i j n = [] := by
  unfold opsI
  rw [List.drop_of_length_le (by rw [data_length]; exact hi), List.drop_of_length_le (l := b.data.toList) (by rw [data_length]; exact hj), ops_nil]
theorem opsI_end1 (c f : Int) (a b : ByteArray) {i j : Nat} (hi : a.size ≤ i) (hj : j < b.size) (n : Nat) : opsI c f a b i j n = ⟨1, (j : Int), (b[j].toNat : Int), c, f + (n : Int)⟩ :: opsI c f a b i (j + 1) (n + 1) := by
  have h2 : j < b.data.toList.length := by rw [data_length]; exact hj
  have e2 : b.data.toList[j] = b[j] := rfl
  unfold opsI
  rw [List.drop_of_length_le (l := a.data.toList) (by rw [data_length]; exact hi), List.drop_eq_getElem_cons h2, ops_left, e2]
theorem opsI_end2 (c f : Int) (a b : ByteArray) {i j : Nat} (hi : i < a.size) (hj : b.size ≤ j) (n : Nat) : opsI c f a b i j n = ⟨2, (j : Int), 0, c, f + (n : Int)⟩ :: opsI c f a b (i + 1) j (n + 1) := by
  have h1 : i < a.data.toList.length := by rw [data_length]; exact hi
  unfold opsI
  rw [List.drop_of_length_le (l := b.data.toList) (by rw [data_length]; exact hj), List.drop_eq_getElem_cons h1, ops_right]
theorem opsI_step (c f : Int) (a b : ByteArray) {i j : Nat} (hi : i < a.size) (hj : j < b.size) (n : Nat) :
    opsI c f a b i j n = if a[i] = b[j] then opsI c f a b (i + 1) (j + 1) n else if TT a b (i + 1) j = TT a b i j then ⟨2, (j : Int), 0, c, f + (n : Int)⟩ :: opsI c f a b (i + 1) j (n + 1) else ⟨1, (j : Int), (b[j].toNat : Int), c, f + (n : Int)⟩ :: opsI c f a b i (j + 1) (n + 1) := by
  have h1 : i < a.data.toList.length := by rw [data_length]; exact hi
  have h2 : j < b.data.toList.length := by rw [data_length]; exact hj
  have e1 : a.data.toList[i] = a[i] := rfl
  have e2 : b.data.toList[j] = b[j] := rfl
  have d1 := List.drop_eq_getElem_cons h1
  have d2 := List.drop_eq_getElem_cons h2
  rw [e1] at d1
  rw [e2] at d2
  unfold opsI TT
  rw [d1, d2, ops_cons]
  by_cases e : a[i] = b[j]
  · rw [if_pos e, if_pos e]
  · rw [if_neg e, if_neg e]
    by_cases e3 : JotDiff.lcs (a.data.toList.drop (i + 1)) (b[j] :: b.data.toList.drop (j + 1)) = JotDiff.lcs (a[i] :: a.data.toList.drop (i + 1)) (b[j] :: b.data.toList.drop (j + 1))
    · rw [if_pos e3, if_pos (by omega)]
    · rw [if_neg e3, if_neg (by omega)]
theorem BInv.drew {w0 W : World} {V : Vars} {client first : Int} {a b : ByteArray} {ops : List S38} {x : Int} (h : BInv w0 V client first a b ops x W) (n : Nat) : BInv w0 V client first a b ops x (W.drewN n) := by
  obtain ⟨h1, ⟨v, h2, h3⟩, h4, h5, h6, h7, h8, h9, h10⟩ := h
  exact ⟨h1.of_block (Nat.le_refl _) rfl, ⟨v, h2, Kd.R_drewN h3 n⟩, h4, h5, h6, h7, by apply pw_below_drewN; exact h8, h9, h10⟩
set_option maxHeartbeats 4000000 in
theorem walk30b (w0 W : World) (V : Vars) (client first : Int) (a b : ByteArray) (ha : a.size ≤ 512) (hb : b.size ≤ 512) (hf : 0 ≤ first ∧ first ≤ 1000) (h : BInv w0 V client first a b [] 0 W) :
    Calls Try.prog 30 #[.pointer (some ⟨V.g, 0, none⟩), .string a, .string b, .func (.func 35) #[] #[.pointer (some ⟨V.ga, 0, none⟩)], .func (.func 36) #[] #[.pointer (some ⟨V.gp, 0, none⟩)], .func (.func 37) #[] #[.pointer (some ⟨V.gp, 0, none⟩), .pointer (some ⟨V.ga, 0, none⟩)]] W fun e w' => e = .returned (.tuple #[]) ∧ ∃ x, BInv w0 V client first a b (opsI client first a b 0 0 0) x w' := by
  have HI := Aside0.mk h
  clear h
  go_enter Try.func30, Try.ntmps30
  go_wp2
  go_loopw [12, 13] (fun v12 v13 wr => ∃ (i j : Nat) (xs : List S38), i ≤ a.size ∧ j ≤ b.size ∧ v12 = .int .i64 i ∧ v13 = .int .i64 j ∧ Aside0 (xs ++ opsI client first a b i j xs.length = opsI client first a b 0 0 0 ∧ xs.length ≤ i + j) ∧ Aside0 (BInv w0 V client first a b xs (j : Int) wr)) (fun v12 v13 _ => (a.size - (intOf v12).toNat) + (b.size - (intOf v13).toNat))
  case atStart => exact ⟨0, 0, [], Nat.zero_le _, Nat.zero_le _, rfl, rfl, ⟨⟨rfl, Nat.le_refl _⟩⟩, HI⟩
  case round =>
    clear HI
    obtain ⟨i, j, xs, hi, hj, rfl, rfl, HS, HI⟩ := hrel
    have q1 : IntKind.i64.wrap ((i : Int) + 1) = (i : Int) + 1 := wrap_small _ (by omega) (by omega)
    have q2 : IntKind.i64.wrap ((j : Int) + 1) = (j : Int) + 1 := wrap_small _ (by omega) (by omega)
    obtain ⟨ca, hca⟩ : ∃ ca : Int, ∀ h : i < a.size, ((a[i]'h).toNat : Int) = ca := by
      by_cases h : i < a.size
      · exact ⟨((a[i]'h).toNat : Int), fun _ => rfl⟩
      · exact ⟨0, fun h2 => absurd h2 h⟩
    obtain ⟨cb, hcb⟩ : ∃ cb : Int, ∀ h : j < b.size, ((b[j]'h).toNat : Int) = cb := by
      by_cases h : j < b.size
      · exact ⟨((b[j]'h).toNat : Int), fun _ => rfl⟩
      · exact ⟨0, fun h2 => absurd h2 h⟩
    have d1 := HI.out.tab.cell (j := (if i < a.size then i + 1 else 0) * 513 + j) (by split <;> omega)
    have d2 := HI.out.tab.cell (j := i * 513 + j) (by omega)
    rw [FO_at a b (by omega)] at d1 d2
    by_cases hia : i < a.size
    · rw [if_pos hia] at d1
      obtain ⟨x1, hx1⟩ : ∃ x, x = TT a b (i + 1) j := ⟨_, rfl⟩
      obtain ⟨x2, hx2⟩ : ∃ x, x = TT a b i j := ⟨_, rfl⟩
      rw [← hx1] at d1
      rw [← hx2] at d2
      have HX := Aside0.mk (And.intro hx1 hx2)
      clear hx1 hx2
      have b1 : (0 : Int) ≤ (i : Int) + 1 ∧ (i : Int) + 1 < 513 := by omega
      have b2 : (0 : Int) ≤ (j : Int) ∧ (j : Int) < 513 := by omega
      have b3 : (0 : Int) ≤ (i : Int) ∧ (i : Int) < 513 := by omega
      have b5 : (0 : Int) ≤ (i : Int) ∧ (i : Int) < (a.size : Int) := by omega
      have ui : decide ((i : Int) < (a.size : Int)) = true := decide_eq_true (by omega)
      by_cases hjb : j < b.size
      · have b6 : (0 : Int) ≤ (j : Int) ∧ (j : Int) < (b.size : Int) := by omega
        have uj : decide ((j : Int) < (b.size : Int)) = true := decide_eq_true (by omega)
        have HQ : Aside0 (ca = cb ↔ a[i] = b[j]) := ⟨by
          rw [← hca hia, ← hcb hjb]
          constructor
          · intro e; exact UInt8.toNat_inj.1 (by omega)
          · intro e; rw [e]⟩
        have HK := Aside0.mk (opsI_step client first a b hia hjb xs.length)
        by_cases hq : ca = cb
        · have hq1 : (ca == cb) = true := by rw [hq]; exact beq_self_eq_true _
          have HK2 : Aside0 (xs ++ opsI client first a b (i + 1) (j + 1) xs.length = opsI client first a b 0 0 0 ∧ xs.length ≤ (i + 1) + (j + 1)) := ⟨by
            have h1 := HS.out.1
            rw [HK.out, if_pos (HQ.out.1 hq)] at h1
            exact ⟨h1, by have := HS.out.2; omega⟩⟩
          clear hq HK HQ d1 d2
          go_wp2
          go_quiet (fail)
          have n_ := Aside0.mk (HI.out.drew nq)
          clear HI
          have HI := n_
          clear n_
          generalize wr.drewN nq = w2 at HI ⊢
          go_wp2_with (go_at_call 35; refine (kept35 w0 _ V client first a b xs (j : Int) ca HI.out (by omega)).mono ?_; rintro e w4 ⟨rfl, h3⟩; rw [← Int.natCast_succ] at h3; have n_ := Aside0.mk h3; clear h3 HI; have HI := n_; clear n_)
          go_roundw
          case rel => exact ⟨i + 1, j + 1, xs, by omega, by omega, by go_num, by go_num, HK2, HI⟩
          case measure => simp [intOf]; omega
        · have hq1 : (ca == cb) = false := by simpa using hq
          by_cases ht : x1 = x2
          · have ht1 : (x1 == x2) = true := by rw [ht]; exact beq_self_eq_true _
            have HK2 : Aside0 ((xs ++ [(⟨2, (j : Int), 0, client, first + (xs.length : Int)⟩ : S38)]) ++ opsI client first a b (i + 1) j (xs ++ [(⟨2, (j : Int), 0, client, first + (xs.length : Int)⟩ : S38)]).length = opsI client first a b 0 0 0 ∧ (xs ++ [(⟨2, (j : Int), 0, client, first + (xs.length : Int)⟩ : S38)]).length ≤ (i + 1) + j) := ⟨by
              have h1 := HS.out.1
              rw [HK.out, if_neg (fun e => hq (HQ.out.2 e)), if_pos (by rw [← HX.out.1, ← HX.out.2, ht])] at h1
              exact ⟨by rw [List.append_assoc, List.length_append]; exact h1, by have := HS.out.2; simp; omega⟩⟩
            clear hq ht HK HQ
            go_wp2
            go_quiet (fail)
            have n_ := Aside0.mk (HI.out.drew nq)
            clear HI
            have HI := n_
            clear n_
            generalize wr.drewN nq = w2 at HI ⊢
            have d1 := HI.out.tab.cell (j := (i + 1) * 513 + j) (by omega)
            have d2 := HI.out.tab.cell (j := i * 513 + j) (by omega)
            rw [FO_at a b (by omega)] at d1 d2
            rw [← HX.out.1] at d1
            rw [← HX.out.2] at d2
            go_wp2
            go_quiet (fail)
            have n_ := Aside0.mk (HI.out.drew nq)
            clear HI
            have HI := n_
            clear n_
            generalize w2.drewN nq = w3 at HI ⊢
            go_wp2_with (go_at_call 36; refine (out36 w0 _ V client first a b xs (j : Int) HI.out (by have := HS.out.2; omega) hf).mono ?_; rintro e w4 ⟨rfl, h3⟩; have n_ := Aside0.mk h3; clear h3 HI; have HI := n_; clear n_)
            go_roundw
            case rel => exact ⟨i + 1, j, xs ++ [(⟨2, (j : Int), 0, client, first + (xs.length : Int)⟩ : S38)], by omega, by omega, by go_num, by go_num, HK2, HI⟩
            case measure => simp [intOf]; omega
          · have ht1 : (x1 == x2) = false := by simpa using ht
            have HK2 : Aside0 ((xs ++ [(⟨1, (j : Int), cb, client, first + (xs.length : Int)⟩ : S38)]) ++ opsI client first a b i (j + 1) (xs ++ [(⟨1, (j : Int), cb, client, first + (xs.length : Int)⟩ : S38)]).length = opsI client first a b 0 0 0 ∧ (xs ++ [(⟨1, (j : Int), cb, client, first + (xs.length : Int)⟩ : S38)]).length ≤ i + (j + 1)) := ⟨by
              have h1 := HS.out.1
              rw [HK.out, if_neg (fun e => hq (HQ.out.2 e)), if_neg (by rw [← HX.out.1, ← HX.out.2]; exact ht), hcb hjb] at h1
              exact ⟨by rw [List.append_assoc, List.length_append]; exact h1, by have := HS.out.2; simp; omega⟩⟩
            clear hq ht HK HQ
            go_wp2
            go_quiet (fail)
            have n_ := Aside0.mk (HI.out.drew nq)
            clear HI
            have HI := n_
            clear n_
            generalize wr.drewN nq = w2 at HI ⊢
            have d1 := HI.out.tab.cell (j := (i + 1) * 513 + j) (by omega)
            have d2 := HI.out.tab.cell (j := i * 513 + j) (by omega)
            rw [FO_at a b (by omega)] at d1 d2
            rw [← HX.out.1] at d1
            rw [← HX.out.2] at d2
            go_wp2
            go_quiet (fail)
            have n_ := Aside0.mk (HI.out.drew nq)
            clear HI
            have HI := n_
            clear n_
            generalize w2.drewN nq = w3 at HI ⊢
            go_wp2_with (go_at_call 37; refine (in37 w0 _ V client first a b xs (j : Int) cb HI.out (by have := HS.out.2; omega) hf (by omega)).mono ?_; rintro e w4 ⟨rfl, h3⟩; rw [← Int.natCast_succ] at h3; have n_ := Aside0.mk h3; clear h3 HI; have HI := n_; clear n_)
            go_roundw
            case rel => exact ⟨i, j + 1, xs ++ [(⟨1, (j : Int), cb, client, first + (xs.length : Int)⟩ : S38)], by omega, by omega, by go_num, by go_num, HK2, HI⟩
            case measure => simp [intOf]; omega
      · have HJ := Aside0.mk hjb
        have ht1 : (x1 == x2) = true := by
          rw [HX.out.1, HX.out.2, TT_end2 a b (i + 1) (by omega), TT_end2 a b i (by omega)]
          rfl
        have uj : decide ((j : Int) < (b.size : Int)) = false := decide_eq_false (by omega)
        have HK2 : Aside0 ((xs ++ [(⟨2, (j : Int), 0, client, first + (xs.length : Int)⟩ : S38)]) ++ opsI client first a b (i + 1) j (xs ++ [(⟨2, (j : Int), 0, client, first + (xs.length : Int)⟩ : S38)]).length = opsI client first a b 0 0 0 ∧ (xs ++ [(⟨2, (j : Int), 0, client, first + (xs.length : Int)⟩ : S38)]).length ≤ (i + 1) + j) := ⟨by
          have h1 := HS.out.1
          rw [opsI_end2 client first a b hia (show b.size ≤ j by omega) xs.length] at h1
          exact ⟨by rw [List.append_assoc, List.length_append]; exact h1, by have := HS.out.2; simp; omega⟩⟩
        go_wp2
        go_quiet (fail)
        have n_ := Aside0.mk (HI.out.drew nq)
        clear HI
        have HI := n_
        clear n_
        generalize wr.drewN nq = w2 at HI ⊢
        have d1 := HI.out.tab.cell (j := (i + 1) * 513 + j) (by omega)
        have d2 := HI.out.tab.cell (j := i * 513 + j) (by omega)
        rw [FO_at a b (by omega)] at d1 d2
        rw [← HX.out.1] at d1
        rw [← HX.out.2] at d2
        go_wp2
        go_quiet (fail)
        have n_ := Aside0.mk (HI.out.drew nq)
        clear HI
        have HI := n_
        clear n_
        generalize w2.drewN nq = w3 at HI ⊢
        go_wp2_with (go_at_call 36; refine (out36 w0 _ V client first a b xs (j : Int) HI.out (by have := HS.out.2; omega) hf).mono ?_; rintro e w4 ⟨rfl, h3⟩; have n_ := Aside0.mk h3; clear h3 HI; have HI := n_; clear n_)
        go_roundw
        case rel => exact ⟨i + 1, j, xs ++ [(⟨2, (j : Int), 0, client, first + (xs.length : Int)⟩ : S38)], by omega, by omega, by go_num, by go_num, HK2, HI⟩
        case measure => simp [intOf]; omega
    · clear d1 d2
      have ui : decide ((i : Int) < (a.size : Int)) = false := decide_eq_false (by omega)
      by_cases hjb : j < b.size
      · have b6 : (0 : Int) ≤ (j : Int) ∧ (j : Int) < (b.size : Int) := by omega
        have uj : decide ((j : Int) < (b.size : Int)) = true := decide_eq_true (by omega)
        have HK2 : Aside0 ((xs ++ [(⟨1, (j : Int), cb, client, first + (xs.length : Int)⟩ : S38)]) ++ opsI client first a b i (j + 1) (xs ++ [(⟨1, (j : Int), cb, client, first + (xs.length : Int)⟩ : S38)]).length = opsI client first a b 0 0 0 ∧ (xs ++ [(⟨1, (j : Int), cb, client, first + (xs.length : Int)⟩ : S38)]).length ≤ i + (j + 1)) := ⟨by
          have h1 := HS.out.1
          rw [opsI_end1 client first a b (show a.size ≤ i by omega) hjb xs.length, hcb hjb] at h1
          exact ⟨by rw [List.append_assoc, List.length_append]; exact h1, by have := HS.out.2; simp; omega⟩⟩
        go_wp2
        go_quiet (fail)
        have n_ := Aside0.mk (HI.out.drew nq)
        clear HI
        have HI := n_
        clear n_
        generalize wr.drewN nq = w2 at HI ⊢
        go_wp2
        go_quiet (fail)
        have n_ := Aside0.mk (HI.out.drew nq)
        clear HI
        have HI := n_
        clear n_
        generalize w2.drewN nq = w3 at HI ⊢
        go_wp2_with (go_at_call 37; refine (in37 w0 _ V client first a b xs (j : Int) cb HI.out (by have := HS.out.2; omega) hf (by omega)).mono ?_; rintro e w4 ⟨rfl, h3⟩; rw [← Int.natCast_succ] at h3; have n_ := Aside0.mk h3; clear h3 HI; have HI := n_; clear n_)
        go_roundw
        case rel => exact ⟨i, j + 1, xs ++ [(⟨1, (j : Int), cb, client, first + (xs.length : Int)⟩ : S38)], by omega, by omega, by go_num, by go_num, HK2, HI⟩
        case measure => simp [intOf]; omega
      · have HK2 : Aside0 (xs = opsI client first a b 0 0 0) := ⟨by
          have h1 := HS.out.1
          rw [opsI_end client first a b (show a.size ≤ i by omega) (show b.size ≤ j by omega) xs.length, List.append_nil] at h1
          exact h1⟩
        have uj : decide ((j : Int) < (b.size : Int)) = false := decide_eq_false (by omega)
        go_wp2
        first | go_end0 | ((try simp only [Exit.inBlock, Exit.then]); refine bodyPost_ret (results_none rfl _ _ _) rfl ?_)
        exact ⟨rfl, _, by rw [← HK2.out]; exact HI.out⟩
end Go.Proofs.Ytjnciljimacblaa.Q
