/- DiffTurns: what its helpers compute, and that the operations turn the one text into the other. No walk. -/
import Derived.Test.YtjnciljimacblaaPT
import Derived.Test.YtjnciljimacblaaHN
import Derived.Test.YtjnciljimacblaaQx8
import Derived.Test.YtjnciljimacblaaQx36
import Derived.Test.YtjnciljimacblaaQx37
namespace Go.Proofs.Ytjnciljimacblaa.P
set_option linter.unusedVariables false
set_option linter.unusedSimpArgs false
open Go.RowKit Go.Proofs.Ytjnciljimacblaa.Q Go.Proofs.YtjnciljimacblaaW.PrintWords
/-- The elements that text makes. -/
def textL : List UInt8 → Nat → List S83
  | [], _ => []
  | x :: xs, i => ⟨(x.toNat : Int), 1 + ((i / 64 % 64 : Nat) : Int), 1 + ((i % 64 : Nat) : Int)⟩ :: textL xs (i + 1)
theorem textL_length : ∀ (l : List UInt8) (i : Nat), (textL l i).length = l.length
  | [], _ => rfl
  | x :: xs, i => by simp [textL, textL_length xs (i + 1)]
theorem textL_map : ∀ (l : List UInt8) (i : Nat), (textL l i).map (·.f0) = numsOf l
  | [], _ => rfl
  | x :: xs, i => by simp only [textL, List.map_cons, textL_map xs (i + 1)]; rfl
theorem textL_old : ∀ (l : List UInt8) (i : Nat), i + l.length ≤ 4000 → ∀ e ∈ textL l i, e.f1 ≠ 64
  | [], _, _ => by simp [textL]
  | x :: xs, i, h => by
    intro e he
    simp only [List.length_cons] at h
    simp only [textL, List.mem_cons] at he
    rcases he with rfl | he
    · show 1 + ((i / 64 % 64 : Nat) : Int) ≠ 64
      omega
    · exact textL_old xs (i + 1) (by omega) e he
/-- One behind the other. -/
def Rise (x y : S83) : Prop := x.f1 < y.f1 ∨ (x.f1 = y.f1 ∧ x.f2 < y.f2)
theorem textL_from : ∀ (l : List UInt8) (i j : Nat), i < j → j + l.length ≤ 4000 → ∀ e ∈ textL l j, Rise ⟨0, 1 + ((i / 64 % 64 : Nat) : Int), 1 + ((i % 64 : Nat) : Int)⟩ e
  | [], _, _, _, _ => by simp [textL]
  | x :: xs, i, j, hij, h => by
    intro e he
    simp only [List.length_cons] at h
    simp only [textL, List.mem_cons] at he
    rcases he with rfl | he
    · show (1 + ((i / 64 % 64 : Nat) : Int) < 1 + ((j / 64 % 64 : Nat) : Int)) ∨ (1 + ((i / 64 % 64 : Nat) : Int) = 1 + ((j / 64 % 64 : Nat) : Int) ∧ 1 + ((i % 64 : Nat) : Int) < 1 + ((j % 64 : Nat) : Int))
      omega
    · exact textL_from xs i (j + 1) (by omega) (by omega) e he
theorem textL_rise : ∀ (l : List UInt8) (i : Nat), i + l.length ≤ 4000 → (textL l i).Pairwise Rise
  | [], _, _ => by simp [textL]
  | x :: xs, i, h => by
    simp only [List.length_cons] at h
    simp only [textL, List.pairwise_cons]
    exact ⟨fun e he => textL_from xs i (i + 1) (by omega) (by omega) e he, textL_rise xs (i + 1) (by omega)⟩
theorem text_l0 (a : ByteArray) (ha : a.size ≤ 512) (n : Nat) : ∀ (i : Nat) (xs : List S83), i + n = a.size → xs.length ≤ i →
    Ev (fun k => jotterlaw17_text.l0 k a xs i) (xs ++ textL ((L a).drop i) i) := by
  induction n with
  | zero =>
    intro i xs hi hx
    refine Ev.from_ 1 fun k => ?_
    simp only [jotterlaw17_text.l0]
    rw [if_neg (by omega), List.drop_of_length_le (l := L a) (by rw [L_length]; omega)]
    simp [textL]
  | succ n ih =>
    intro i xs hi hx
    have hia : i < (L a).length := by rw [L_length]; omega
    refine Ev.step (fun k => by rw [jotterlaw17_text.l0]) (Ev.pos (by omega) (Ev.pos (by omega) (Ev.pos (by omega) ?_)))
    have e1 : Int.tdiv (i : Int) 64 = ((i / 64 : Nat) : Int) := rfl
    have e2 : Int.tmod ((i / 64 : Nat) : Int) 64 = ((i / 64 % 64 : Nat) : Int) := rfl
    have e3 : Int.tmod (i : Int) 64 = ((i % 64 : Nat) : Int) := rfl
    rw [e1, wrap_in (n := ((i / 64 : Nat) : Int)) (by omega) (by omega), e2, e3, wrap_in (n := 1 + ((i / 64 % 64 : Nat) : Int)) (by omega) (by omega), wrap_in (n := 1 + ((i % 64 : Nat) : Int)) (by omega) (by omega), wrap_in (n := (i : Int) + 1) (by omega) (by omega), bt_L a i (by omega), List.drop_eq_getElem_cons hia]
    have := ih (i + 1) (xs ++ [⟨((L a)[i].toNat : Int), 1 + ((i / 64 % 64 : Nat) : Int), 1 + ((i % 64 : Nat) : Int)⟩]) (by omega) (by simp; omega)
    rw [List.append_assoc] at this
    exact this
theorem text_f (a : ByteArray) (ha : a.size ≤ 512) : Ev (fun k => jotterlaw17_text.f k a) (textL (L a) 0) :=
  text_l0 a ha a.size 0 [] (by omega) (by simp)
theorem old_pos {e : S83} (h : e.f1 ≠ 64) (F : List S83) : (e :: F).filter (fun e => e.f1 != 64) = e :: F.filter (fun e => e.f1 != 64) :=
  List.filter_cons_of_pos (p := fun e : S83 => e.f1 != 64) (bne_iff_ne.2 h)
theorem old_neg {e : S83} (h : e.f1 = 64) (F : List S83) : (e :: F).filter (fun e => e.f1 != 64) = F.filter (fun e => e.f1 != 64) :=
  List.filter_cons_of_neg (p := fun e : S83 => e.f1 != 64) (fun h2 => (bne_iff_ne.1 h2) h)
theorem old_l0 (d : List S83) (hd : d.length ≤ 5000) (n : Nat) : ∀ (i : Nat) (xs : List S83), i + n = d.length → xs.length ≤ i →
    Ev (fun k => jotterlaw17_old.l0 k d xs i) (xs ++ (d.drop i).filter (fun e => e.f1 != 64)) := by
  induction n with
  | zero =>
    intro i xs hi hx
    refine Ev.from_ 1 fun k => ?_
    simp only [jotterlaw17_old.l0]
    rw [if_neg (by omega), List.drop_of_length_le (by omega)]
    simp
  | succ n ih =>
    intro i xs hi hx
    refine Ev.step (fun k => by rw [jotterlaw17_old.l0]) (Ev.pos (by omega) (Ev.pos (by omega) ?_))
    rw [rd83, wrap_in (by omega) (by omega), drop_getD z83 d i (by omega)]
    by_cases e : (d.getD i z83).f1 = 64
    · refine Ev.pos e ?_
      rw [old_neg e]
      exact ih (i + 1) xs (by omega) (by omega)
    · refine Ev.neg e (Ev.pos (by omega) ?_)
      rw [old_pos e]
      have := ih (i + 1) (xs ++ [d.getD i z83]) (by omega) (by simp; omega)
      rw [List.append_assoc] at this
      exact this
theorem old_f (d : List S83) (hd : d.length ≤ 5000) : Ev (fun k => jotterlaw17_old.f k d) (d.filter (fun e => e.f1 != 64)) :=
  old_l0 d hd d.length 0 [] (by omega) (by simp)
theorem rising_l0 (d : List S83) (hd : d.length ≤ 5000) (h : d.Pairwise Rise) (n : Nat) : ∀ i : Nat, 1 ≤ i → (i + n = d.length ∨ (n = 0 ∧ d.length ≤ i)) → i ≤ 5000 →
    Ev (fun k => jotterlaw17_rising.l0 k d i) true := by
  induction n with
  | zero =>
    intro i h1 hi h2
    refine Ev.from_ 1 fun k => ?_
    simp only [jotterlaw17_rising.l0]
    rw [if_neg (by omega)]
  | succ n ih =>
    intro i h1 hi h2
    have hi : i + (n + 1) = d.length := by omega
    refine Ev.step (fun k => by rw [jotterlaw17_rising.l0]) (Ev.pos (by omega) (Ev.pos (by omega) ?_))
    rw [wrap_in (n := (i : Int) - 1) (by omega) (by omega), wrap_in (n := (i : Int) + 1) (by omega) (by omega), show (i : Int) - 1 = ((i - 1 : Nat) : Int) by omega, rd83, rd83, getD_at _ _ _ (show i < d.length by omega), getD_at _ _ _ (show i - 1 < d.length by omega)]
    refine Ev.pos (by omega) (Ev.pos (by omega) ?_)
    have hr : Rise d[i - 1] d[i] := List.pairwise_iff_getElem.1 h (i - 1) i (by omega) (by omega) (by omega)
    unfold Rise at hr
    refine Ev.neg (by omega) ?_
    by_cases e : (d[i]).f1 = (d[i - 1]).f1
    · exact Ev.pos e (Ev.neg (by omega) (ih (i + 1) (by omega) (by omega) (by omega)))
    · exact Ev.neg e (ih (i + 1) (by omega) (by omega) (by omega))
theorem rising_f (d : List S83) (hd : d.length ≤ 4000) (h : d.Pairwise Rise) : Ev (fun k => jotterlaw17_rising.f k d) true :=
  rising_l0 d (by omega) h (d.length - 1) 1 (Nat.le_refl _) (by omega) (by omega)
/-- The texts behind operations that fit, one after the other. -/
def applies : List S83 → List S38 → Option (List S83)
  | d, [] => some d
  | d, o :: os => if fitsS d.length o = 0 then applies (putS d o) os else none
theorem ops_length (c f : Int) (m : Nat) : ∀ (xs ys : List UInt8) (j n : Nat), xs.length + ys.length ≤ m → (opsL c f xs ys j n).length + 2 * JotDiff.lcs xs ys = xs.length + ys.length := by
  induction m with
  | zero =>
    intro xs ys j n h
    have hx : xs = [] := List.length_eq_zero_iff.1 (by omega)
    have hy : ys = [] := List.length_eq_zero_iff.1 (by omega)
    subst hx; subst hy
    rw [ops_nil, JotDiff.lcs_nil_left]
    rfl
  | succ m ih =>
    intro xs ys j n h
    match xs, ys with
    | [], [] => rw [ops_nil, JotDiff.lcs_nil_left]; rfl
    | [], y :: ys =>
      have := ih [] ys (j + 1) (n + 1) (by simp at h ⊢; omega)
      rw [ops_left, JotDiff.lcs_nil_left] at *
      simp only [List.length_cons, List.length_nil] at *
      omega
    | x :: xs, [] =>
      have := ih xs [] j (n + 1) (by simp at h ⊢; omega)
      rw [ops_right, JotDiff.lcs_nil_right]
      rw [JotDiff.lcs_nil_right] at this
      simp only [List.length_cons, List.length_nil] at *
      omega
    | x :: xs, y :: ys =>
      simp only [List.length_cons] at h
      rw [ops_cons]
      by_cases e : x = y
      · subst e
        rw [if_pos rfl, JotDiff.lcs_cons_eq]
        have := ih xs ys (j + 1) n (by omega)
        simp only [List.length_cons]
        omega
      · rw [if_neg e]
        by_cases e2 : JotDiff.lcs xs (y :: ys) = JotDiff.lcs (x :: xs) (y :: ys)
        · rw [if_pos e2]
          have := ih xs (y :: ys) j (n + 1) (by rw [List.length_cons]; omega)
          simp only [List.length_cons] at this ⊢
          omega
        · rw [if_neg e2]
          have := ih (x :: xs) ys (j + 1) (n + 1) (by rw [List.length_cons]; omega)
          have h4 := JotDiff.lcs_cons_ne e xs ys
          simp only [List.length_cons] at this ⊢
          omega
theorem ops_form (c f : Int) (m : Nat) : ∀ (xs ys : List UInt8) (j n : Nat), xs.length + ys.length ≤ m → ∀ (k : Nat) (o : S38), (opsL c f xs ys j n)[k]? = some o → o.f0 ≠ 0 ∧ o.f3 = c ∧ o.f4 = f + ((n + k : Nat) : Int) ∧ 0 ≤ o.f2 ∧ o.f2 ≤ 255 := by
  induction m with
  | zero =>
    intro xs ys j n h k o ho
    have hx : xs = [] := List.length_eq_zero_iff.1 (by omega)
    have hy : ys = [] := List.length_eq_zero_iff.1 (by omega)
    subst hx; subst hy
    rw [ops_nil] at ho
    simp at ho
  | succ m ih =>
    have head : ∀ (p o : S38) (l : List S38) (k n : Nat), (p :: l)[k]? = some o → (p.f0 ≠ 0 ∧ p.f3 = c ∧ p.f4 = f + (n : Int) ∧ 0 ≤ p.f2 ∧ p.f2 ≤ 255) → (∀ (k : Nat) (o : S38), l[k]? = some o → o.f0 ≠ 0 ∧ o.f3 = c ∧ o.f4 = f + ((n + 1 + k : Nat) : Int) ∧ 0 ≤ o.f2 ∧ o.f2 ≤ 255) → o.f0 ≠ 0 ∧ o.f3 = c ∧ o.f4 = f + ((n + k : Nat) : Int) ∧ 0 ≤ o.f2 ∧ o.f2 ≤ 255 := by
      intro p o l k n ho hp hl
      cases k with
      | zero =>
        have : p = o := Option.some.inj ho
        subst this
        exact hp
      | succ k =>
        have := hl k o ho
        rw [show n + (k + 1) = n + 1 + k by omega]
        exact this
    intro xs ys j n h k o ho
    match xs, ys with
    | [], [] => rw [ops_nil] at ho; simp at ho
    | [], y :: ys =>
      rw [ops_left] at ho
      have hy := y.toNat_lt
      exact head _ o _ k n ho ⟨by simp, rfl, rfl, by simp, by simp; omega⟩ (fun k o => ih [] ys (j + 1) (n + 1) (by simp at h ⊢; omega) k o)
    | x :: xs, [] =>
      rw [ops_right] at ho
      exact head _ o _ k n ho ⟨by simp, rfl, rfl, by simp, by simp⟩ (fun k o => ih xs [] j (n + 1) (by simp at h ⊢; omega) k o)
    | x :: xs, y :: ys =>
      simp only [List.length_cons] at h
      rw [ops_cons] at ho
      by_cases e : x = y
      · rw [if_pos e] at ho
        exact ih xs ys (j + 1) n (by omega) k o ho
      · rw [if_neg e] at ho
        by_cases e2 : JotDiff.lcs xs (y :: ys) = JotDiff.lcs (x :: xs) (y :: ys)
        · rw [if_pos e2] at ho
          exact head _ o _ k n ho ⟨by simp, rfl, rfl, by simp, by simp⟩ (fun k o => ih xs (y :: ys) j (n + 1) (by rw [List.length_cons]; omega) k o)
        · rw [if_neg e2] at ho
          have hy := y.toNat_lt
          exact head _ o _ k n ho ⟨by simp, rfl, rfl, by simp, by simp; omega⟩ (fun k o => ih (x :: xs) ys (j + 1) (n + 1) (by rw [List.length_cons]; omega) k o)
theorem put_ins (d : List S83) (p c a b : Int) : putS d ⟨1, p, c, a, b⟩ = d.take p.toNat ++ ([⟨c, a, b⟩] ++ d.drop p.toNat) := by unfold putS; rw [if_pos rfl]
theorem put_del (d : List S83) (p c a b : Int) : putS d ⟨2, p, c, a, b⟩ = d.take p.toNat ++ d.drop (p.toNat + 1) := by unfold putS; rw [if_neg (by simp), if_pos rfl]
/-- An insertion behind the first part, a deletion there. -/
theorem ins_at (P E : List S83) (c a b : Int) : putS (P ++ E) ⟨1, (P.length : Int), c, a, b⟩ = (P ++ [⟨c, a, b⟩]) ++ E := by
  rw [put_ins, Int.toNat_natCast, List.take_left' rfl, List.drop_left' rfl, List.append_assoc]
theorem del_at (P E : List S83) (e : S83) (c a b : Int) : putS (P ++ e :: E) ⟨2, (P.length : Int), c, a, b⟩ = P ++ E := by
  rw [put_del, Int.toNat_natCast, List.take_left' rfl, List.drop_append, List.drop_of_length_le (by omega), show P.length + 1 - P.length = 1 by omega]
  simp
theorem turns (f : Int) (hf : 1 ≤ f) (m : Nat) : ∀ (xs ys : List UInt8) (E P : List S83) (n : Nat), xs.length + ys.length ≤ m → E.map (·.f0) = numsOf xs → (∀ e ∈ E, e.f1 ≠ 64) → (∀ y ∈ ys, okByte y = true) → P.length + xs.length + ys.length ≤ 2000 →
    f + (n : Int) + ((opsL 64 f xs ys P.length n).length : Int) ≤ 65 →
    ∃ F, applies (P ++ E) (opsL 64 f xs ys P.length n) = some (P ++ F) ∧ F.map (·.f0) = numsOf ys ∧ (F.filter (fun e => e.f1 != 64)).Sublist E ∧ (F.filter (fun e => e.f1 != 64)).map (·.f0) = numsOf (JotDiff.keptL xs ys) := by
  induction m with
  | zero =>
    intro xs ys E P n h hE ho hy hl hn
    have hx : xs = [] := List.length_eq_zero_iff.1 (by omega)
    have hy : ys = [] := List.length_eq_zero_iff.1 (by omega)
    subst hx; subst hy
    have hE : E = [] := by simpa [numsOf] using hE
    subst hE
    rw [ops_nil, JotDiff.kept_nil_left]
    exact ⟨[], rfl, rfl, List.Sublist.refl _, rfl⟩
  | succ m ih =>
    have ins : ∀ (x' : List UInt8) (y : UInt8) (ys : List UInt8) (E P : List S83) (n : Nat), E.length = x'.length → okByte y = true → P.length + x'.length + (ys.length + 1) ≤ 2000 → f + (n : Int) + 1 ≤ 65 → fitsS (P ++ E).length ⟨1, (P.length : Int), (y.toNat : Int), 64, f + (n : Int)⟩ = 0 := by
      intro x' y ys E P n hE hy hl hn
      have hy2 : 32 ≤ y.toNat ∧ y.toNat ≤ 126 := by simpa [okByte] using hy
      refine fits_ok (valid_ok (by simp) (by simp) (by simp) (by simp) (by show (1 : Int) ≤ f + (n : Int); omega) (by show f + (n : Int) ≤ 64; omega) (fun _ => by show (32 : Int) ≤ (y.toNat : Int) ∧ (y.toNat : Int) ≤ 126; omega) (by simp) (by simp) (by show (0 : Int) ≤ (P.length : Int); omega) (by show (P.length : Int) < 4096; omega)) (by omega) (by rw [List.length_append]; omega) (fun _ => ⟨by rw [List.length_append]; omega, by show (P.length : Int) ≤ ((P ++ E).length : Int); rw [List.length_append]; omega⟩) (by simp)
    have del : ∀ (x' : List UInt8) (e : S83) (E P : List S83) (n : Nat), E.length = x'.length → P.length + (x'.length + 1) ≤ 2000 → f + (n : Int) + 1 ≤ 65 → fitsS (P ++ e :: E).length ⟨2, (P.length : Int), 0, 64, f + (n : Int)⟩ = 0 := by
      intro x' e E P n hE hl hn
      refine fits_ok (valid_ok (by simp) (by simp) (by simp) (by simp) (by show (1 : Int) ≤ f + (n : Int); omega) (by show f + (n : Int) ≤ 64; omega) (by simp) (by simp) (by simp) (by show (0 : Int) ≤ (P.length : Int); omega) (by show (P.length : Int) < 4096; omega)) (by omega) (by rw [List.length_append, List.length_cons]; omega) (by simp) (fun _ => by show (P.length : Int) < ((P ++ e :: E).length : Int); rw [List.length_append, List.length_cons]; omega)
    intro xs ys E P n h hE ho hy hl hn
    have hlen : E.length = xs.length := by have := congrArg List.length hE; simpa [numsOf] using this
    match xs, ys with
    | [], [] =>
      have hE : E = [] := by simpa [numsOf] using hE
      subst hE
      rw [ops_nil, JotDiff.kept_nil_left]
      exact ⟨[], rfl, rfl, List.Sublist.refl _, rfl⟩
    | [], y :: ys =>
      rw [ops_left] at hn ⊢
      simp only [List.length_cons, List.length_nil] at h hl hn
      have hfit := ins [] y ys E P n hlen (hy y (by simp)) (by simp; omega) (by omega)
      have e1 : (P ++ [(⟨(y.toNat : Int), 64, f + (n : Int)⟩ : S83)]).length = P.length + 1 := by simp
      obtain ⟨F, h1, h2, h3, h4⟩ := ih [] ys E (P ++ [⟨(y.toNat : Int), 64, f + (n : Int)⟩]) (n + 1) (by simp; omega) hE ho (fun z hz => hy z (by simp [hz])) (by rw [e1]; simp; omega) (by rw [e1]; omega)
      rw [e1] at h1
      refine ⟨⟨(y.toNat : Int), 64, f + (n : Int)⟩ :: F, ?_, ?_, ?_, ?_⟩
      · rw [applies, if_pos hfit, ins_at, h1, List.append_assoc]; rfl
      · rw [List.map_cons, h2]; rfl
      · rw [old_neg rfl]; exact h3
      · rw [old_neg rfl, h4, JotDiff.kept_nil_left, JotDiff.kept_nil_left]
    | x :: xs, [] =>
      obtain ⟨e, E, rfl⟩ : ∃ e l, E = e :: l := by
        cases E with
        | nil => simp at hlen
        | cons e l => exact ⟨e, l, rfl⟩
      rw [ops_right] at hn ⊢
      simp only [List.length_cons, List.length_nil] at h hl hn hlen
      have hfit := del xs e E P n (by omega) (by omega) (by omega)
      have hE2 : E.map (·.f0) = numsOf xs := (List.cons.inj hE).2
      obtain ⟨F, h1, h2, h3, h4⟩ := ih xs [] E P (n + 1) (by simp; omega) hE2 (fun z hz => ho z (by simp [hz])) (by simp) (by simp; omega) (by omega)
      refine ⟨F, ?_, h2, h3.cons e, ?_⟩
      · rw [applies, if_pos hfit, del_at, h1]
      · rw [h4, JotDiff.kept_nil_right, JotDiff.kept_nil_right]
    | x :: xs, y :: ys =>
      obtain ⟨e, E, rfl⟩ : ∃ e l, E = e :: l := by
        cases E with
        | nil => simp at hlen
        | cons e l => exact ⟨e, l, rfl⟩
      have hE1 : e.f0 = (x.toNat : Int) := (List.cons.inj hE).1
      have hE2 : E.map (·.f0) = numsOf xs := (List.cons.inj hE).2
      simp only [List.length_cons] at h hl hlen
      rw [ops_cons] at hn ⊢
      rw [JotDiff.kept_cons]
      by_cases c : x = y
      · subst c
        rw [if_pos rfl] at hn ⊢
        have e1 : (P ++ [e]).length = P.length + 1 := by simp
        obtain ⟨F, h1, h2, h3, h4⟩ := ih xs ys E (P ++ [e]) n (by omega) hE2 (fun z hz => ho z (by simp [hz])) (fun z hz => hy z (by simp [hz])) (by rw [e1]; omega) (by rw [e1]; exact hn)
        rw [e1] at h1
        have hk : e.f1 ≠ 64 := ho e (by simp)
        refine ⟨e :: F, ?_, ?_, ?_, ?_⟩
        · rw [show P ++ e :: E = (P ++ [e]) ++ E by simp, h1, List.append_assoc]; rfl
        · rw [List.map_cons, h2, hE1]; rfl
        · rw [old_pos hk]; exact h3.cons_cons e
        · rw [old_pos hk, List.map_cons, h4, hE1, if_pos rfl]; rfl
      · rw [if_neg c] at hn ⊢
        rw [if_neg c]
        by_cases c2 : JotDiff.lcs xs (y :: ys) = JotDiff.lcs (x :: xs) (y :: ys)
        · rw [if_pos c2] at hn ⊢
          rw [if_pos c2]
          simp only [List.length_cons] at hn
          have hfit := del xs e E P n (by omega) (by omega) (by omega)
          obtain ⟨F, h1, h2, h3, h4⟩ := ih xs (y :: ys) E P (n + 1) (by rw [List.length_cons]; omega) hE2 (fun z hz => ho z (by simp [hz])) hy (by rw [List.length_cons]; omega) (by omega)
          refine ⟨F, ?_, h2, h3.cons e, h4⟩
          rw [applies, if_pos hfit, del_at, h1]
        · rw [if_neg c2] at hn ⊢
          rw [if_neg c2]
          simp only [List.length_cons] at hn
          have hfit := ins (x :: xs) y ys (e :: E) P n (by simp; omega) (hy y (by simp)) (by simp; omega) (by omega)
          have e1 : (P ++ [(⟨(y.toNat : Int), 64, f + (n : Int)⟩ : S83)]).length = P.length + 1 := by simp
          obtain ⟨F, h1, h2, h3, h4⟩ := ih (x :: xs) ys (e :: E) (P ++ [⟨(y.toNat : Int), 64, f + (n : Int)⟩]) (n + 1) (by rw [List.length_cons]; omega) hE ho (fun z hz => hy z (by simp [hz])) (by rw [e1, List.length_cons]; omega) (by rw [e1]; omega)
          rw [e1] at h1
          refine ⟨⟨(y.toNat : Int), 64, f + (n : Int)⟩ :: F, ?_, ?_, ?_, ?_⟩
          · rw [applies, if_pos hfit, ins_at, h1, List.append_assoc]; rfl
          · rw [List.map_cons, h2]; rfl
          · rw [old_neg rfl]; exact h3
          · rw [old_neg rfl]; exact h4
end Go.Proofs.Ytjnciljimacblaa.P
