/- Several texts of this claim in one: each part begins with its own remark. Conditions: as each part says. -/
import Derived.Test.YtjnciljimacblaaHB
import Derived.Test.YtjnciljimacblaaHP
import Derived.StillTailTactics
import Derived.Deep.QuietTactic
import Derived.BigQuiet
import Derived.Laws.MakeOwn
import Derived.Test.YtjnciljimacblaaHQ
import Derived.Test.YtjnciljimacblaaHC
import Derived.Test.YtjnciljimacblaaHN
import Derived.Test.YtjnciljimacblaaPU
import Derived.Test.YtjnciljimacblaaQx23
/- The reference's search for the edits that are left, from both ends backwards: plain facts, no program. -/
namespace Go.Proofs.Ytjnciljimacblaa.Q
open Go.RowKit Go.Proofs.YtjnciljimacblaaW.PrintWords
set_option linter.unusedVariables false
set_option linter.unusedSimpArgs false
/-- A longest common part of what is left. -/
def tt (a b : ByteArray) (i j : Nat) : Nat := JotDiff.lcs (a.data.toList.drop i) (b.data.toList.drop j)
theorem tt_le (a b : ByteArray) (i j : Nat) : tt a b i j ≤ a.size - i ∧ tt a b i j ≤ b.size - j := by
  have h1 := JotDiff.lcs_le_left (a.data.toList.drop i) (b.data.toList.drop j)
  have h2 := JotDiff.lcs_le_right (a.data.toList.drop i) (b.data.toList.drop j)
  rw [List.length_drop, data_length] at h1 h2
  exact ⟨h1, h2⟩
/-- How many edits are left from (i, j) on. -/
def dd (a b : ByteArray) (i j : Nat) : Nat := (a.size - i) + (b.size - j) - 2 * tt a b i j
/-- The characters at i and at j are the same. -/
def Mt (a b : ByteArray) (i j : Nat) : Prop := ∃ (h1 : i < a.size) (h2 : j < b.size), a[i] = b[j]
section
variable {a b : ByteArray} {i j e : Nat}
theorem dd_end : dd a b a.size b.size = 0 := by unfold dd; omega
theorem tt_end1 (h : a.size ≤ i) : tt a b i j = 0 := by have := (tt_le a b i j).1; omega
theorem tt_end2 (h : b.size ≤ j) : tt a b i j = 0 := by have := (tt_le a b i j).2; omega
theorem tt_step (hi : i < a.size) (hj : j < b.size) : tt a b i j = if a[i] = b[j] then tt a b (i + 1) (j + 1) + 1 else max (tt a b (i + 1) j) (tt a b i (j + 1)) := by
  have h := TT_step a b hi hj
  have e1 : ∀ x y, TT a b x y = (tt a b x y : Int) := fun _ _ => rfl
  rw [e1, e1, e1, e1] at h
  split
  · rename_i hq; rw [if_pos hq] at h; omega
  · rename_i hq; rw [if_neg hq] at h; omega
theorem dd_match (h : Mt a b i j) : dd a b i j = dd a b (i + 1) (j + 1) := by
  obtain ⟨h1, h2, h3⟩ := h
  have ht := tt_step h1 h2
  rw [if_pos h3] at ht
  have := tt_le a b (i + 1) (j + 1)
  unfold dd
  omega
theorem dd_up (h : i < a.size) : dd a b i j ≤ dd a b (i + 1) j + 1 ∧ dd a b (i + 1) j ≤ dd a b i j + 1 := by
  have h1 : i < a.data.toList.length := by rw [data_length]; exact h
  have ht := JotDiff.lcs_drop_le (a.data.toList[i]) (a.data.toList.drop (i + 1)) (b.data.toList.drop j)
  rw [← List.drop_eq_getElem_cons h1] at ht
  have h2 : tt a b (i + 1) j ≤ tt a b i j ∧ tt a b i j ≤ tt a b (i + 1) j + 1 := ht
  have := tt_le a b i j
  have := tt_le a b (i + 1) j
  unfold dd
  omega
theorem tt_comm (a b : ByteArray) (i j : Nat) : tt a b i j = tt b a j i := JotDiff.lcs_comm _ _
theorem dd_comm (a b : ByteArray) (i j : Nat) : dd a b i j = dd b a j i := by unfold dd; rw [tt_comm]; omega
theorem dd_left (h : j < b.size) : dd a b i j ≤ dd a b i (j + 1) + 1 ∧ dd a b i (j + 1) ≤ dd a b i j + 1 := by
  rw [dd_comm a b i j, dd_comm a b i (j + 1)]
  exact dd_up h
theorem dd_step (hi : i ≤ a.size) (hj : j ≤ b.size) (hn : i < a.size ∨ j < b.size) (hm : ¬ Mt a b i j) : (i < a.size ∧ dd a b i j = dd a b (i + 1) j + 1) ∨ (j < b.size ∧ dd a b i j = dd a b i (j + 1) + 1) := by
  have t0 := tt_le a b i j
  have t1 := tt_le a b (i + 1) j
  have t2 := tt_le a b i (j + 1)
  by_cases h1 : i < a.size
  · by_cases h2 : j < b.size
    · have ht := tt_step h1 h2
      rw [if_neg (fun e => hm ⟨h1, h2, e⟩)] at ht
      unfold dd
      omega
    · have e1 := tt_end2 (a := a) (b := b) (i := i) (j := j) (by omega)
      have e2 := tt_end2 (a := a) (b := b) (i := i + 1) (j := j) (by omega)
      unfold dd
      omega
  · have e1 := tt_end1 (a := a) (b := b) (i := i) (j := j) (by omega)
    have e2 := tt_end1 (a := a) (b := b) (i := i) (j := j + 1) (by omega)
    unfold dd
    omega
theorem dd_le (a b : ByteArray) (i j : Nat) : dd a b i j ≤ a.size + b.size := by unfold dd; omega
/-- What stands in the table: all places nearer than e, and those of N, which are e away. -/
def FF (a b : ByteArray) (e : Nat) (N : List (Nat × Nat)) (p : Nat) : Int :=
  if dd a b (p / (b.size + 1)) (p % (b.size + 1)) < e then (dd a b (p / (b.size + 1)) (p % (b.size + 1)) : Int) + 1 else if (p / (b.size + 1), p % (b.size + 1)) ∈ N then (e : Int) + 1 else 0
theorem at_div (hj : j ≤ b.size) : (i * (b.size + 1) + j) / (b.size + 1) = i ∧ (i * (b.size + 1) + j) % (b.size + 1) = j := by
  constructor
  · rw [Nat.mul_comm, Nat.mul_add_div (by omega), Nat.div_eq_of_lt (by omega)]; rfl
  · rw [Nat.mul_comm, Nat.mul_add_mod, Nat.mod_eq_of_lt (by omega)]
theorem at_lt (hi : i ≤ a.size) (hj : j ≤ b.size) : i * (b.size + 1) + j < (a.size + 1) * (b.size + 1) := by
  have : i * (b.size + 1) ≤ a.size * (b.size + 1) := Nat.mul_le_mul_right _ hi
  rw [Nat.add_mul]
  omega
theorem FF_at {N : List (Nat × Nat)} (hj : j ≤ b.size) : FF a b e N (i * (b.size + 1) + j) = if dd a b i j < e then (dd a b i j : Int) + 1 else if (i, j) ∈ N then (e : Int) + 1 else 0 := by
  unfold FF
  rw [(at_div hj).1, (at_div hj).2]
theorem FF_add {N : List (Nat × Nat)} (hj : j ≤ b.size) (hd : dd a b i j = e) (p : Nat) : (if p = i * (b.size + 1) + j then (e : Int) + 1 else FF a b e N p) = FF a b e (N ++ [(i, j)]) p := by
  unfold FF
  by_cases h : p = i * (b.size + 1) + j
  · rw [if_pos h, h, (at_div hj).1, (at_div hj).2, if_neg (by omega), if_pos (by simp)]
  · rw [if_neg h]
    have h2 : ((p / (b.size + 1), p % (b.size + 1)) ∈ N ++ [(i, j)]) ↔ (p / (b.size + 1), p % (b.size + 1)) ∈ N := by
      rw [List.mem_append]
      refine ⟨fun h3 => h3.elim id (fun h4 => ?_), .inl⟩
      simp only [List.mem_singleton, Prod.mk.injEq] at h4
      exfalso
      apply h
      rw [← h4.1, ← h4.2]
      have := Nat.div_add_mod p (b.size + 1)
      rw [Nat.mul_comm] at this
      exact this.symm
    simp only [h2]
/-- Places that are e away. -/
structure Good (a b : ByteArray) (e : Nat) (N : List (Nat × Nat)) : Prop where
  rng : ∀ x y, (x, y) ∈ N → x ≤ a.size ∧ y ≤ b.size ∧ dd a b x y = e
  nd : N.Nodup
/-- With a place all are in from which it is reached by keeping characters. -/
def Shut (a b : ByteArray) (N : List (Nat × Nat)) : Prop := ∀ x y, (x + 1, y + 1) ∈ N → Mt a b x y → (x, y) ∈ N
structure RInv (a b : ByteArray) (e : Nat) (N0 : List (Nat × Nat)) (i0 j0 : Nat) (N : List (Nat × Nat)) (i j : Nat) : Prop where
  good : Good a b e N
  hi : i ≤ a.size
  hj : j ≤ b.size
  de : dd a b i j ≤ e
  cl : ∀ x y, (x + 1, y + 1) ∈ N → Mt a b x y → (x, y) ∈ N ∨ (dd a b i j = e ∧ x = i ∧ y = j)
  sub : ∀ p ∈ N0, p ∈ N
  got : (i = i0 ∧ j = j0) ∨ (i0, j0) ∈ N
structure RDone (a b : ByteArray) (e : Nat) (N0 : List (Nat × Nat)) (i0 j0 : Nat) (N : List (Nat × Nat)) : Prop where
  good : Good a b e N
  shut : Shut a b N
  sub : ∀ p ∈ N0, p ∈ N
  got : dd a b i0 j0 < e ∨ (i0, j0) ∈ N
theorem RInv.start {N : List (Nat × Nat)} (g : Good a b e N) (s : Shut a b N) (hi : i ≤ a.size) (hj : j ≤ b.size) (hd : dd a b i j ≤ e) : RInv a b e N i j N i j :=
  ⟨g, hi, hj, hd, fun x y h1 h2 => .inl (s x y h1 h2), fun p hp => hp, .inl ⟨rfl, rfl⟩⟩
theorem RInv.stop {N0 N : List (Nat × Nat)} {i0 j0 : Nat} (h : RInv a b e N0 i0 j0 N i j) (hs : dd a b i j < e ∨ (i, j) ∈ N) : RDone a b e N0 i0 j0 N := by
  refine ⟨h.good, fun x y h1 h2 => ?_, h.sub, ?_⟩
  · rcases h.cl x y h1 h2 with h3 | ⟨h3, rfl, rfl⟩
    · exact h3
    · exact hs.resolve_left (by omega)
  · rcases h.got with ⟨rfl, rfl⟩ | h1
    · exact hs
    · exact .inr h1
theorem RInv.new {N0 N : List (Nat × Nat)} {i0 j0 : Nat} (h : RInv a b e N0 i0 j0 N i j) (hd : ¬ dd a b i j < e) (hn : (i, j) ∉ N) : Good a b e (N ++ [(i, j)]) ∧ dd a b i j = e := by
  have hde := h.de
  have he : dd a b i j = e := by omega
  refine ⟨⟨fun x y hp => ?_, ?_⟩, he⟩
  · rcases List.mem_append.1 hp with h1 | h1
    · exact h.good.rng x y h1
    · simp only [List.mem_singleton, Prod.mk.injEq] at h1
      obtain ⟨rfl, rfl⟩ := h1
      exact ⟨h.hi, h.hj, he⟩
  · rw [List.nodup_append]
    refine ⟨h.good.nd, by simp, fun p hp q hq e2 => ?_⟩
    simp only [List.mem_singleton] at hq
    subst hq
    subst e2
    exact hn hp
theorem RInv.last {N0 N : List (Nat × Nat)} {i0 j0 : Nat} (h : RInv a b e N0 i0 j0 N i j) (hd : ¬ dd a b i j < e) (hn : (i, j) ∉ N) (hm : ∀ x y, i = x + 1 → j = y + 1 → ¬ Mt a b x y) : RDone a b e N0 i0 j0 (N ++ [(i, j)]) := by
  obtain ⟨hg, he⟩ := h.new hd hn
  refine ⟨hg, fun x y h1 h2 => ?_, fun p hp => List.mem_append_left _ (h.sub p hp), .inr ?_⟩
  · rcases List.mem_append.1 h1 with h1 | h1
    · rcases h.cl x y h1 h2 with h3 | ⟨h3, rfl, rfl⟩
      · exact List.mem_append_left _ h3
      · simp
    · simp only [List.mem_singleton, Prod.mk.injEq] at h1
      exact absurd h2 (hm x y h1.1.symm h1.2.symm)
  · rcases h.got with ⟨rfl, rfl⟩ | h1
    · simp
    · exact List.mem_append_left _ h1
theorem RInv.next {N0 N : List (Nat × Nat)} {i0 j0 x y : Nat} (h : RInv a b e N0 i0 j0 N (x + 1) (y + 1)) (hd : ¬ dd a b (x + 1) (y + 1) < e) (hn : (x + 1, y + 1) ∉ N) (hm : Mt a b x y) : RInv a b e N0 i0 j0 (N ++ [(x + 1, y + 1)]) x y := by
  obtain ⟨hg, he⟩ := h.new hd hn
  have hq := dd_match hm
  refine ⟨hg, by have := h.hi; omega, by have := h.hj; omega, by omega, fun x' y' h1 h2 => ?_, fun p hp => List.mem_append_left _ (h.sub p hp), .inr ?_⟩
  · rcases List.mem_append.1 h1 with h1 | h1
    · rcases h.cl x' y' h1 h2 with h3 | ⟨h3, rfl, rfl⟩
      · exact .inl (List.mem_append_left _ h3)
      · exact .inl (by simp)
    · simp only [List.mem_singleton, Prod.mk.injEq] at h1
      exact .inr ⟨by omega, by omega, by omega⟩
  · rcases h.got with ⟨e1, e2⟩ | h1
    · rw [← e1, ← e2]; simp
    · exact List.mem_append_left _ h1
/-- The places of a list that are e away, all of them. -/
def Whole (a b : ByteArray) (e : Nat) (N : List (Nat × Nat)) : Prop := ∀ x y, x ≤ a.size → y ≤ b.size → dd a b x y = e → (x, y) ∈ N
theorem nil_good : Good a b e [] := ⟨by simp, by simp⟩
theorem nil_shut : Shut a b [] := fun x y h => by simp at h
theorem whole_start {N : List (Nat × Nat)} (h : RDone a b 0 [] a.size b.size N) : Whole a b 0 N := by
  have key : ∀ n x y, x ≤ a.size → y ≤ b.size → (a.size - x) + (b.size - y) = n → dd a b x y = 0 → (x, y) ∈ N := by
    intro n
    induction n using Nat.strongRecOn with
    | _ n ih =>
      intro x y hx hy hn hd
      by_cases he : x < a.size ∨ y < b.size
      · by_cases hm : Mt a b x y
        · have hm2 := hm
          obtain ⟨h1, h2, h3⟩ := hm
          have hq := dd_match hm2
          exact h.shut x y (ih ((a.size - (x + 1)) + (b.size - (y + 1))) (by omega) (x + 1) (y + 1) (by omega) (by omega) rfl (by omega)) hm2
        · rcases dd_step hx hy he hm with ⟨_, h1⟩ | ⟨_, h1⟩ <;> omega
      · have ex : x = a.size := by omega
        have ey : y = b.size := by omega
        subst ex; subst ey
        exact h.got.resolve_left (by omega)
  exact fun x y hx hy hd => key _ x y hx hy rfl hd
/-- The first k places of L have been looked at. -/
def Seen (a b : ByteArray) (e : Nat) (L : List (Nat × Nat)) (k : Nat) (N : List (Nat × Nat)) : Prop :=
  ∀ q x y, q < k → L[q]? = some (x, y) → (∀ z, x = z + 1 → dd a b z y < e ∨ (z, y) ∈ N) ∧ (∀ z, y = z + 1 → dd a b x z < e ∨ (x, z) ∈ N)
theorem Seen.sub {L N N' : List (Nat × Nat)} {k : Nat} (h : Seen a b e L k N) (hs : ∀ p ∈ N, p ∈ N') : Seen a b e L k N' :=
  fun q x y hq hl => ⟨fun z hz => ((h q x y hq hl).1 z hz).imp id (hs _), fun z hz => ((h q x y hq hl).2 z hz).imp id (hs _)⟩
theorem Seen.zero {L N : List (Nat × Nat)} : Seen a b e L 0 N := fun q x y hq => by omega
theorem Seen.step {L N : List (Nat × Nat)} {k x y : Nat} (h : Seen a b e L k N) (hl : L[k]? = some (x, y)) (h1 : ∀ z, x = z + 1 → dd a b z y < e ∨ (z, y) ∈ N) (h2 : ∀ z, y = z + 1 → dd a b x z < e ∨ (x, z) ∈ N) : Seen a b e L (k + 1) N := by
  intro q x' y' hq hl'
  by_cases e1 : q = k
  · subst e1
    rw [hl] at hl'
    injection hl' with hl'
    injection hl' with h3 h4
    subst h3; subst h4
    exact ⟨h1, h2⟩
  · exact h q x' y' (by omega) hl'
theorem whole_next {L N : List (Nat × Nat)} (hL : Whole a b e L) (hN : Shut a b N) (hs : Seen a b (e + 1) L L.length N) : Whole a b (e + 1) N := by
  have key : ∀ n x y, x ≤ a.size → y ≤ b.size → (a.size - x) + (b.size - y) = n → dd a b x y = e + 1 → (x, y) ∈ N := by
    intro n
    induction n using Nat.strongRecOn with
    | _ n ih =>
      intro x y hx hy hn hd
      have he : x < a.size ∨ y < b.size := by
        by_cases he : x < a.size ∨ y < b.size
        · exact he
        · have ex : x = a.size := by omega
          have ey : y = b.size := by omega
          rw [ex, ey, dd_end] at hd
          omega
      by_cases hm : Mt a b x y
      · have hm2 := hm
        obtain ⟨h1, h2, h3⟩ := hm
        have hq := dd_match hm2
        exact hN x y (ih ((a.size - (x + 1)) + (b.size - (y + 1))) (by omega) (x + 1) (y + 1) (by omega) (by omega) rfl (by omega)) hm2
      · rcases dd_step hx hy he hm with ⟨h1, h2⟩ | ⟨h1, h2⟩
        · have hin := hL (x + 1) y (by omega) hy (by omega)
          obtain ⟨q, hq, hq2⟩ := List.mem_iff_getElem.1 hin
          exact ((hs q (x + 1) y hq (by rw [List.getElem?_eq_getElem hq, hq2])).1 x rfl).resolve_left (by omega)
        · have hin := hL x (y + 1) hx (by omega) (by omega)
          obtain ⟨q, hq, hq2⟩ := List.mem_iff_getElem.1 hin
          exact ((hs q x (y + 1) hq (by rw [List.getElem?_eq_getElem hq, hq2])).2 y rfl).resolve_left (by omega)
  exact fun x y hx hy hd => key _ x y hx hy rfl hd
theorem FF_next {N : List (Nat × Nat)} (hN : Whole a b e N) (hg : Good a b e N) {p : Nat} (hp : p < (a.size + 1) * (b.size + 1)) : FF a b e N p = FF a b (e + 1) [] p := by
  have hx : p / (b.size + 1) ≤ a.size := by
    have := (Nat.div_lt_iff_lt_mul (show 0 < b.size + 1 by omega)).2 hp
    omega
  have hy : p % (b.size + 1) ≤ b.size := by
    have := Nat.mod_lt p (show b.size + 1 > 0 by omega)
    omega
  unfold FF
  generalize p / (b.size + 1) = x at hx ⊢
  generalize p % (b.size + 1) = y at hy ⊢
  by_cases h1 : dd a b x y < e
  · rw [if_pos h1, if_pos (by omega)]
  · rw [if_neg h1]
    by_cases h2 : dd a b x y = e
    · rw [if_pos (hN x y hx hy h2), if_pos (by omega), h2]
    · rw [if_neg (fun h => h2 (hg.rng x y h).2.2), if_neg (by omega), if_neg (by simp)]
/-- When no place is e away, all are nearer. -/
theorem all_near (hL : Whole a b e []) : ∀ x y, x ≤ a.size → y ≤ b.size → dd a b x y < e := by
  have key : ∀ n x y, x ≤ a.size → y ≤ b.size → (a.size - x) + (b.size - y) = n → dd a b x y < e := by
    intro n
    induction n using Nat.strongRecOn with
    | _ n ih =>
      intro x y hx hy hn
      have hne : dd a b x y ≠ e := fun h => by have := hL x y hx hy h; simp at this
      by_cases he : x < a.size ∨ y < b.size
      · by_cases hm : Mt a b x y
        · have hm2 := hm
          obtain ⟨h1, h2, h3⟩ := hm
          have hq := dd_match hm2
          have := ih ((a.size - (x + 1)) + (b.size - (y + 1))) (by omega) (x + 1) (y + 1) (by omega) (by omega) rfl
          omega
        · rcases dd_step hx hy he hm with ⟨h1, h2⟩ | ⟨h1, h2⟩
          · have := ih ((a.size - (x + 1)) + (b.size - y)) (by omega) (x + 1) y (by omega) hy rfl
            omega
          · have := ih ((a.size - x) + (b.size - (y + 1))) (by omega) x (y + 1) hx (by omega) rfl
            omega
      · have ex : x = a.size := by omega
        have ey : y = b.size := by omega
        subst ex; subst ey
        rw [dd_end] at hne ⊢
        omega
  exact fun x y hx hy => key _ x y hx hy rfl
theorem nodup_bound : ∀ (K : Nat) (l : List Nat), l.Nodup → (∀ x ∈ l, x < K) → l.length ≤ K := by
  intro K
  induction K with
  | zero =>
    intro l _ h
    cases l with
    | nil => simp
    | cons x xs => exact absurd (h x (by simp)) (by omega)
  | succ K ih =>
    intro l hn h
    by_cases hk : K ∈ l
    · have h1 := ih (l.erase K) (hn.erase K) (fun x hx => by
        have h2 := (hn.mem_erase_iff).1 hx
        have := h x h2.2
        have := h2.1
        omega)
      rw [List.length_erase_of_mem hk] at h1
      omega
    · have h1 := ih l hn (fun x hx => by
        have := h x hx
        have : x ≠ K := fun e => hk (e ▸ hx)
        omega)
      omega
theorem Good.length_le {N : List (Nat × Nat)} (h : Good a b e N) : N.length ≤ (a.size + 1) * (b.size + 1) := by
  have h1 := nodup_bound ((a.size + 1) * (b.size + 1)) (N.map (fun p => p.1 * (b.size + 1) + p.2)) ?_ ?_
  · rwa [List.length_map] at h1
  · rw [List.nodup_iff_pairwise_ne, List.pairwise_map]
    refine List.Pairwise.imp_of_mem ?_ (List.nodup_iff_pairwise_ne.1 h.nd)
    intro p q hp hq hne he
    have r1 := h.rng p.1 p.2 hp
    have r2 := h.rng q.1 q.2 hq
    have d1 := at_div (i := p.1) r1.2.1
    have d2 := at_div (i := q.1) r2.2.1
    apply hne
    ext
    · rw [← d1.1, ← d2.1, he]
    · rw [← d1.2, ← d2.2, he]
  · intro x hx
    obtain ⟨p, hp, rfl⟩ := List.mem_map.1 hx
    have r1 := h.rng p.1 p.2 hp
    exact at_lt r1.1 r1.2.1
end
end Go.Proofs.Ytjnciljimacblaa.Q
/- The reference's reach: the walk. Conditions: the lengths, and that the table and the list stand as its search leaves them. -/
namespace Go.Proofs.Ytjnciljimacblaa.Q
open Go.RowKit Go.Proofs.YtjnciljimacblaaW.PrintWords Go.Proofs.YtjnciljimacblaaW.PrintLast Go.Proofs.YtjnciljimacblaaW.PrintMore
set_option linter.unusedVariables false
set_option linter.unusedSimpArgs false
set_option maxRecDepth 100000
structure S92 where
  f0 : Int
  f1 : Int
def z92 : S92 := ⟨(0 : Int), (0 : Int)⟩
def k92 : Kd S92 := Kd.iso (Kd.pair (Kd.int .i64) (Kd.int .i64)) (fun x : S92 => (x.f0, x.f1))
theorem k92_open {w : World} {x : S92} {cs : List Value} (h : k92.K w x cs) : cs = [.int .i64 x.f0, .int .i64 x.f1] := by
  obtain ⟨_, _, rfl, rfl, rfl⟩ := h
  exact rfl
theorem k92_mkM (w : World) (base : Nat) (ok : Nat → Prop) (x : S92) : k92.M w base ok x [.int .i64 x.f0, .int .i64 x.f1] := ⟨[.int .i64 x.f0], [.int .i64 x.f1], rfl, rfl, rfl⟩
theorem info92 : (Try.prog.info? 92).map (fun i => (i.zero, i.size, i.bytes)) = some (some (.agg #[(.int .i64 0), (.int .i64 0)]), 2, 16) := by kernel_rfl
def rd_T92 (xs : List S92) (i : Int) : S92 := xs.getD i.toNat z92
theorem at_T92 {w : World} {A : Option Addr} {n : Nat} {xs : List S92} (h : Kd.C k92 w A n xs) (i : Int) (h0 : 0 ≤ i) (h1 : i < n) : ∃ ad , A = some ad ∧ w.cell? (ad.add (i.toNat * 2)) = some (.int .i64 (rd_T92 xs i).f0) ∧ w.cell? ⟨(ad.add (i.toNat * 2)).block, (ad.add (i.toNat * 2)).off + 1, none⟩ = some (.int .i64 (rd_T92 xs i).f1) := by
  obtain ⟨ad, c, e, _, hK, hc0⟩ := Kd.C_get h z92 i h0 h1
  have hc : ∀ j u, c[j]? = some u → w.cell? (ad.add (i.toNat * 2 + j)) = some u := hc0
  obtain rfl := k92_open hK
  exact ⟨ad, e, hc 0 _ rfl, by rw [← add_field _ _ 1 (by omega)]; exact hc 1 _ rfl⟩
def pl (p : Nat × Nat) : S92 := ⟨p.1, p.2⟩
/-- What the search keeps: the struct's block, the table. -/
structure SInv (w0 : World) (gx ga wd n : Nat) (f : Nat → Int) (W : World) : Prop where
  box : W.heap[gx]? = some (.cells #[.int .i64 (wd : Int), .slice (some ⟨ga, 0, none⟩) n n] 81 (0, 0))
  tab : BlkI .i64 W ga 3 n f
  below : Below w0.heap.size w0 W
  ge : w0.heap.size ≤ ga
/-- The whole number of a cell. -/
def cellI (W : World) (p : Addr) : Int := match W.cell? p with | some (.int _ x) => x | _ => 0
theorem cellI_of {W : World} {p : Addr} {k : IntKind} {x : Int} (h : W.cell? p = some (.int k x)) : cellI W p = x := by unfold cellI; rw [h]
theorem SInv.kept {w0 W W1 : World} {gx ga wd n : Nat} {f : Nat → Int} (h : SInv w0 gx ga wd n f W) {S : Nat → Prop} (hk : Kept W W1 S) (h1 : ¬ S gx) (h2 : ¬ S ga) (hb : Below w0.heap.size w0 W1) : SInv w0 gx ga wd n f W1 :=
  ⟨blk_kept h.box hk h1, h.tab.of_block hk.1 (hk.2 ga h.tab.lt h2), hb, h.ge⟩
theorem SInv.drew {w0 W : World} {gx ga wd n : Nat} {f : Nat → Int} (h : SInv w0 gx ga wd n f W) : SInv w0 gx ga wd n f W.drew := ⟨h.box, h.tab.of_block (Nat.le_refl _) rfl, below_drew1 h.below, h.ge⟩
theorem SInv.drewN {w0 W : World} {gx ga wd n : Nat} {f : Nat → Int} (h : SInv w0 gx ga wd n f W) (m : Nat) : SInv w0 gx ga wd n f (W.drewN m) := ⟨h.box, h.tab.of_block (Nat.le_refl _) rfl, by apply pw_below_drewN; exact h.below, h.ge⟩
theorem SInv.ne {w0 W : World} {gx ga wd n : Nat} {f : Nat → Int} (h : SInv w0 gx ga wd n f W) : ga ≠ gx := by
  obtain ⟨C, fz, hC, _⟩ := h.tab.at_
  exact blk_other hC h.box (by decide)
theorem own_ne92 {W : World} {base : Nat} {ok : Nat → Prop} {v : Value} {xs : List S92} {g t : Nat} {C : Array Value} {fz : Nat × Nat} (h : k92.R 92 W base ok v xs) (hb : W.heap[g]? = some (.cells C t fz)) (ht : t ≠ 92) : some g ≠ v.ownBlock := by
  intro e
  obtain ⟨cells, hc⟩ := Kd.R_typed h g e.symm
  rw [hb] at hc
  injection hc with hc
  injection hc with _ h2 _
  exact ht h2
/-- What reach keeps besides: the list, its place, the elder memory. -/
structure LInv (W0 : World) (base ga gp : Nat) (v0 : Value) (N : List (Nat × Nat)) (i j : Nat) (v : Value) (W : World) : Prop where
  pos : W.heap[gp]? = some (.cells #[.int .i64 (i : Int), .int .i64 (j : Int)] 92 (0, 0))
  row : k92.R 92 W base (fun q => q ≠ gp) v (N.map pl)
  kept : Kept W0 W (fun q => q = ga ∨ some q = v0.ownBlock)
  own : v.ownBlock = v0.ownBlock ∨ ∃ b, v.ownBlock = some b ∧ W0.heap.size ≤ b
  new : W0.heap.size ≤ gp
theorem LInv.drew {W0 : World} {base ga gp i j : Nat} {v0 v : Value} {N : List (Nat × Nat)} {W : World} (h : LInv W0 base ga gp v0 N i j v W) : LInv W0 base ga gp v0 N i j v W.drew := ⟨h.pos, Kd.R_drew h.row, h.kept, h.own, h.new⟩
theorem LInv.drewN {W0 : World} {base ga gp i j : Nat} {v0 v : Value} {N : List (Nat × Nat)} {W : World} (h : LInv W0 base ga gp v0 N i j v W) (m : Nat) : LInv W0 base ga gp v0 N i j v (W.drewN m) := ⟨h.pos, Kd.R_drewN h.row m, h.kept, h.own, h.new⟩
/-- A store into the table. -/
theorem reach_store {w0 W0 W : World} {gx ga wd n gp i j p : Nat} {f : Nat → Int} {v0 v : Value} {N : List (Nat × Nat)} (hs : SInv w0 gx ga wd n f W) (hl : LInv W0 w0.heap.size ga gp v0 N i j v W) (hp : p < n) (x : Int) :
    SInv w0 gx ga wd n (fun q => if q = p then x else f q) (W.setCell ⟨ga, p, none⟩ (.int .i64 x)) ∧ LInv W0 w0.heap.size ga gp v0 N i j v (W.setCell ⟨ga, p, none⟩ (.int .i64 x)) := by
  obtain ⟨C, fz, hC, _⟩ := hs.tab.at_
  have hK : Kept W (W.setCell ⟨ga, p, none⟩ (.int .i64 x)) (fun q => q = ga) := Kept.setCell (p := ⟨ga, p, none⟩) (Kept.refl W (fun q => q = ga)) (.inl rfl) _
  have M := own_ne92 hl.row hC (by decide)
  refine ⟨⟨blk_kept hs.box hK (Ne.symm hs.ne), hs.tab.set hp x, blk_below_set hs.below hs.ge p _, hs.ge⟩, ⟨blk_kept hl.pos hK (Ne.symm (blk_other hC hl.pos (by decide))), ?_, ?_, hl.own, hl.new⟩⟩
  · have h1 := Kd.R_kept (Kd.R_tight2 rfl hl.row) hK (fun q hq e => M (by rw [← e]; exact hq.1))
    exact Kd.R_mono h1 (fun q hq => hq.2)
  · exact hl.kept.then_ hK (fun k hk => .inl (.inl hk))
/-- An append to the list. -/
theorem reach_append {w0 W0 W W1 : World} {gx ga wd n gp i j : Nat} {f : Nat → Int} {v0 v v1 : Value} {N : List (Nat × Nat)} (hs : SInv w0 gx ga wd n f W) (hl : LInv W0 w0.heap.size ga gp v0 N i j v W)
    (hrow : k92.R 92 W1 w0.heap.size (fun q => q ≠ gp) v1 (N.map pl ++ [pl (i, j)])) (hb : Below w0.heap.size w0 W1) (hg : W.grownBy W1 v.ownBlock) (hat : v1.ownBlock = v.ownBlock ∨ ∃ b, v1.ownBlock = some b ∧ W.heap.size ≤ b) :
    SInv w0 gx ga wd n f W1 ∧ LInv W0 w0.heap.size ga gp v0 (N ++ [(i, j)]) i j v1 W1 := by
  obtain ⟨C, fz, hC, _⟩ := hs.tab.at_
  have M := own_ne92 hl.row hC (by decide)
  have M2 := own_ne92 hl.row hs.box (by decide)
  have M3 : some gp ≠ v.ownBlock := fun e => hl.row.1 gp e.symm rfl
  refine ⟨⟨blk_grown hs.box hg M2, hs.tab.grown hg M, hb, hs.ge⟩, ⟨blk_grown hl.pos hg M3, by rw [List.map_append]; exact hrow, ?_, ?_, hl.new⟩⟩
  · refine Kept.of_grown hg hl.kept (fun k hk => ?_)
    rcases hl.own with h1 | ⟨b, h1, h2⟩
    · exact .inl (.inr (by rw [← h1]; exact hk.symm))
    · rw [h1] at hk
      injection hk with hk
      exact .inr (by omega)
  · rcases hat with h1 | ⟨b, h1, h2⟩
    · rw [h1]; exact hl.own
    · exact .inr ⟨b, h1, Nat.le_trans hl.kept.1 h2⟩
theorem two_set {W : World} {g t : Nat} {x y u v : Value} (h : W.heap[g]? = some (.cells #[x, y] t (0, 0))) : ((W.setCell ⟨g, 0, none⟩ u).setCell ⟨g, 1, none⟩ v).heap[g]? = some (.cells #[u, v] t (0, 0)) := by
  have hlt := blk_lt h
  have h' : W.heap[g] = .cells #[x, y] t (0, 0) := by simpa [Array.getElem?_eq_getElem hlt] using h
  simp [World.setCell, Array.getElem?_modify, Array.getElem?_eq_getElem hlt, h']
/-- One place back. -/
theorem reach_step {w0 W0 W : World} {gx ga wd n gp i j : Nat} {f : Nat → Int} {v0 v : Value} {N : List (Nat × Nat)} (hs : SInv w0 gx ga wd n f W) (hl : LInv W0 w0.heap.size ga gp v0 N i j v W) (h0 : w0.heap.size ≤ W0.heap.size) (x y : Nat) :
    SInv w0 gx ga wd n f ((W.setCell ⟨gp, 0, none⟩ (.int .i64 (x : Int))).setCell ⟨gp, 1, none⟩ (.int .i64 (y : Int))) ∧ LInv W0 w0.heap.size ga gp v0 N x y v ((W.setCell ⟨gp, 0, none⟩ (.int .i64 (x : Int))).setCell ⟨gp, 1, none⟩ (.int .i64 (y : Int))) := by
  obtain ⟨C, fz, hC, _⟩ := hs.tab.at_
  have hge : w0.heap.size ≤ gp := Nat.le_trans h0 hl.new
  have hK : Kept W ((W.setCell ⟨gp, 0, none⟩ (.int .i64 (x : Int))).setCell ⟨gp, 1, none⟩ (.int .i64 (y : Int))) (fun q => q = gp) := Kept.setCell (p := ⟨gp, 1, none⟩) (Kept.setCell (p := ⟨gp, 0, none⟩) (Kept.refl W (fun q => q = gp)) (.inl rfl) _) (.inl rfl) _
  refine ⟨hs.kept hK (blk_other hs.box hl.pos (by decide)) (blk_other hC hl.pos (by decide)) (blk_below_set (blk_below_set hs.below hge 0 _) hge 1 _), ⟨two_set hl.pos, Kd.R_kept hl.row hK (fun q hq e => hq e), ?_, hl.own, hl.new⟩⟩
  exact hl.kept.then_ hK (fun k hk => .inr (by rw [hk]; exact hl.new))
attribute [local go_sem] max2_int min2_int max_two min_two max_three min_three max_four min_four
set_option maxHeartbeats 4000000 in
theorem reach_calls (w0 W0 : World) (gx ga wd n : Nat) (a b : ByteArray) (hwd : wd = b.size + 1) (hn : n = (a.size + 1) * (b.size + 1)) (i0 j0 e : Nat) (N0 : List (Nat × Nat)) (v0 : Value) (hs : SInv w0 gx ga wd n (FF a b e N0) W0) (hr : k92.R 92 W0 w0.heap.size (fun _ => True) v0 (N0.map pl))
    (hg : Good a b e N0) (hsh : Shut a b N0) (hi0 : i0 ≤ a.size) (hj0 : j0 ≤ b.size) (hd : dd a b i0 j0 ≤ e) (he : e ≤ 2000) (ha : a.size ≤ 512) (hb : b.size ≤ 512) :
    Calls Try.prog 45 #[.pointer (some ⟨gx, 0, none⟩), .string a, .string b, .agg #[.int .i64 (i0 : Int), .int .i64 (j0 : Int)], .int .i64 (e : Int), v0] W0 fun ex w' => ∃ (v : Value) (N : List (Nat × Nat)), ex = .returned v ∧ RDone a b e N0 i0 j0 N ∧ SInv w0 gx ga wd n (FF a b e N) w' ∧ k92.R 92 w' w0.heap.size (fun _ => True) v (N.map pl) ∧ Kept W0 w' (fun q => q = ga ∨ some q = v0.ownBlock) ∧ (v.ownBlock = v0.ownBlock ∨ ∃ b, v.ownBlock = some b ∧ W0.heap.size ≤ b) := by
  have hu92 := Try.underlying92
  have HW := Aside0.mk (And.intro hwd hn)
  have HS := Aside0.mk hs
  have HR := Aside0.mk hr
  have HI : Aside0 (RInv a b e N0 i0 j0 N0 i0 j0) := ⟨RInv.start hg hsh hi0 hj0 hd⟩
  clear hs hr hwd hn hg hsh hi0 hj0 hd
  go_enter Try.func45, Try.ntmps45
  have H0 : Aside0 (w0.heap.size ≤ W0.heap.size) := ⟨HS.out.below.size⟩
  go_wp2
  have HL : Aside0 (LInv W0 w0.heap.size ga W0.heap.size v0 N0 i0 j0 v0 (W0.alloc (.cells #[.int .i64 (i0 : Int), .int .i64 (j0 : Int)] 92 (0, 0)))) := ⟨⟨heap_alloc_new _ _, Kd.R_mono (Kd.R_below (Kd.R_elderB HR.out W0.heap.size (Nat.le_refl _)) (below_alloc (Below.refl _ _) _)) (fun q hq => hq.2), Kept.of_below (below_alloc (Below.refl _ _) _) _, .inl rfl, Nat.le_refl _⟩⟩
  have HS1 : Aside0 (SInv w0 gx ga wd n (FF a b e N0) (W0.alloc (.cells #[.int .i64 (i0 : Int), .int .i64 (j0 : Int)] 92 (0, 0)))) := ⟨HS.out.kept (Kept.of_below (below_alloc (Below.refl _ _) _) (fun _ => False)) id id (below_alloc HS.out.below _)⟩
  clear HS HR
  generalize W0.alloc (.cells #[.int .i64 (i0 : Int), .int .i64 (j0 : Int)] 92 (0, 0)) = w1 at HL HS1 ⊢
  obtain ⟨gp, hgp⟩ : ∃ gp, gp = W0.heap.size := ⟨_, rfl⟩
  rw [← hgp] at HL ⊢
  clear hgp
  go_loopw [5] (fun v5 wr => ∃ (i j : Nat) (N : List (Nat × Nat)), Aside0 (RInv a b e N0 i0 j0 N i j) ∧ Aside0 (SInv w0 gx ga wd n (FF a b e N) wr) ∧ Aside0 (LInv W0 w0.heap.size ga gp v0 N i j v5 wr)) (fun _ wr => (cellI wr ⟨gp, 0, none⟩).toNat)
  case atStart => exact ⟨i0, j0, N0, HI, HS1, HL⟩
  case round =>
    clear HI HS1 HL
    obtain ⟨i, j, N, HI, HS, HL⟩ := hrel
    have p0 : wr.cell? ⟨gp, 0, none⟩ = some (.int .i64 (i : Int)) := (blk_cell HL.out.pos 0).trans rfl
    have p1 : wr.cell? ⟨gp, 1, none⟩ = some (.int .i64 (j : Int)) := (blk_cell HL.out.pos 1).trans rfl
    have x0 : wr.cell? ⟨gx, 0, none⟩ = some (.int .i64 (wd : Int)) := (blk_cell HS.out.box 0).trans rfl
    have x1 : wr.cell? ⟨gx, 1, none⟩ = some (.slice (some ⟨ga, 0, none⟩) n n) := (blk_cell HS.out.box 1).trans rfl
    have hi := HI.out.hi
    have hj := HI.out.hj
    have hwl : wd ≤ 513 := by have := HW.out.1; omega
    obtain ⟨m, hm⟩ : ∃ m, m = i * wd := ⟨_, rfl⟩
    have hm2 : m ≤ 512 * 513 := by rw [hm]; exact Nat.mul_le_mul (by omega) hwl
    obtain ⟨p, hp⟩ : ∃ p, p = m + j := ⟨_, rfl⟩
    have hpn : p < n := by rw [hp, hm, HW.out.1, HW.out.2]; exact at_lt hi hj
    have q1 : IntKind.i64.wrap ((i : Int) * (wd : Int)) = (m : Int) := by
      rw [show ((i : Int) * (wd : Int)) = (m : Int) by rw [hm]; simp]
      exact wrap_small _ (by omega) (by omega)
    have q2 : IntKind.i64.wrap ((m : Int) + (j : Int)) = (p : Int) := by
      rw [show ((m : Int) + (j : Int)) = (p : Int) by omega]
      exact wrap_small _ (by omega) (by omega)
    have b1 : (0 : Int) ≤ (p : Int) ∧ (p : Int) < (n : Int) := by omega
    have c0 := HS.out.tab.cell hpn
    have hF : FF a b e N p = if dd a b i j < e then (dd a b i j : Int) + 1 else if (i, j) ∈ N then (e : Int) + 1 else 0 := by rw [hp, hm, HW.out.1]; exact FF_at hj
    obtain ⟨x, hx⟩ : ∃ x, x = FF a b e N p := ⟨_, rfl⟩
    rw [← hx] at c0 hF
    have HP := Aside0.mk (And.intro hm hp)
    clear hm hp hm2
    by_cases hz : x = 0
    case neg =>
      have z1 : (x == 0) = false := by simpa using hz
      have hst : dd a b i j < e ∨ (i, j) ∈ N := by
        by_cases h1 : dd a b i j < e
        · exact .inl h1
        · rw [if_neg h1] at hF
          by_cases h2 : (i, j) ∈ N
          · exact .inr h2
          · rw [if_neg h2] at hF; exact absurd hF hz
      have HD := Aside0.mk (HI.out.stop hst)
      clear hF hst hz hx
      go_wp2
      go_quiet (fail)
      have HS2 := Aside0.mk (HS.out.drewN nq)
      have HL2 := Aside0.mk (HL.out.drewN nq)
      clear HS HL
      generalize wr.drewN nq = w2 at HS2 HL2 ⊢
      go_wp2
      go_ret
      exact ⟨_, N, rfl, HD.out, HS2.out, Kd.R_mono HL2.out.row (fun _ _ => trivial), HL2.out.kept, HL2.out.own⟩
    case pos =>
      subst hz
      have z1 : ((0 : Int) == 0) = true := rfl
      have hnd : ¬ dd a b i j < e := fun h => by rw [if_pos h] at hF; omega
      have hnn : (i, j) ∉ N := fun h => by rw [if_neg hnd, if_pos h] at hF; omega
      have HN := Aside0.mk (And.intro hnd hnn)
      have PW : Aside0 (cellI wr ⟨gp, 0, none⟩ = (i : Int)) := ⟨cellI_of p0⟩
      clear hF hx hnd hnn
      go_wp2
      go_quiet (fail)
      have HS2 := Aside0.mk (HS.out.drewN nq)
      have HL2 := Aside0.mk (HL.out.drewN nq)
      clear HS HL p0 p1 x0 x1 c0
      generalize wr.drewN nq = w2 at HS2 HL2 ⊢
      have p0 : w2.cell? ⟨gp, 0, none⟩ = some (.int .i64 (i : Int)) := (blk_cell HL2.out.pos 0).trans rfl
      have p1 : w2.cell? ⟨gp, 1, none⟩ = some (.int .i64 (j : Int)) := (blk_cell HL2.out.pos 1).trans rfl
      have x0 : w2.cell? ⟨gx, 0, none⟩ = some (.int .i64 (wd : Int)) := (blk_cell HS2.out.box 0).trans rfl
      have x1 : w2.cell? ⟨gx, 1, none⟩ = some (.slice (some ⟨ga, 0, none⟩) n n) := (blk_cell HS2.out.box 1).trans rfl
      have q3 : IntKind.i64.wrap ((e : Int) + 1) = (e : Int) + 1 := wrap_small _ (by omega) (by omega)
      go_wp2
      go_still_tail 17, (by kernel_rfl)
      change wpList _ _ _ _ _ w2.drew
      have HS3 := Aside0.mk HS2.out.drew
      have HL3 := Aside0.mk HL2.out.drew
      clear HS2 HL2 p0 p1 x0 x1
      generalize w2.drew = w3 at HS3 HL3 ⊢
      have f0 := HS3.out.tab.frozen hpn
      have c0 := HS3.out.tab.cell hpn
      have HQ := reach_store HS3.out HL3.out hpn ((e : Int) + 1)
      have HS4 := Aside0.mk HQ.1
      have HL4 := Aside0.mk HQ.2
      clear HQ HS3 HL3
      go_upto_region 3 with (fail)
      (try simp only [Act.put, List.setIfInBounds_toArray, List.set_cons_zero, List.set_cons_succ])
      clear f0 c0
      generalize w3.setCell ⟨ga, p, none⟩ (.int .i64 ((e : Int) + 1)) = w4 at HS4 HL4 ⊢
      have p0 : w4.cell? ⟨gp, 0, none⟩ = some (.int .i64 (i : Int)) := (blk_cell HL4.out.pos 0).trans rfl
      have p1 : w4.cell? ⟨gp, 1, none⟩ = some (.int .i64 (j : Int)) := (blk_cell HL4.out.pos 1).trans rfl
      have HFF : Aside0 (∀ q, (if q = p then (e : Int) + 1 else FF a b e N q) = FF a b e (N ++ [(i, j)]) q) := ⟨fun q => by
        have hde := HI.out.de
        have h1 := HN.out.1
        rw [HP.out.2, HP.out.1, HW.out.1]
        exact FF_add hj (by omega) q⟩
      have HLN : Aside0 ((N.map pl).length ≤ 300000) := ⟨by
        rw [List.length_map]
        have h1 := HI.out.good.length_le
        have h2 : (a.size + 1) * (b.size + 1) ≤ 513 * 513 := Nat.mul_le_mul (by omega) (by omega)
        omega⟩
      have HE := Aside0.mk he
      clear q1 q2 q3 b1 hpn hwl z1 he
      go_wp2_with (at_builtin; refine Kd.R_append k92 (w0 := w0) w0.heap.size rfl (.tmp 47) (.tmp 49) 89 92 (.agg #[(.int .i64 0), (.int .i64 0)]) 16 rfl Try.underlying89 info92 rfl (by decide) (by omega) _ (N.map pl) (pl (i, j)) [.int .i64 (i : Int), .int .i64 (j : Int)] (fun q => q ≠ gp) (fun _ => False) rfl rfl ?aP (fun _ hk => hk.elim) ?aF HL4.out.row HS4.out.below HS4.out.below.size ?aL ?_; (case aP => exact k92_mkM _ _ _ (pl (i, j))); (case aF => exact fun k hk e => by have := blk_lt HL4.out.pos; omega); (case aL => have := HLN.out; omega); intro v1 w5 ho hb5 hg5 hat; have HQ := reach_append HS4.out HL4.out ho hb5 hg5 hat; clear p0 p1; have p0 : w5.cell? ⟨gp, 0, none⟩ = some (.int .i64 (i : Int)) := (blk_cell HQ.2.pos 0).trans rfl; have p1 : w5.cell? ⟨gp, 1, none⟩ = some (.int .i64 (j : Int)) := (blk_cell HQ.2.pos 1).trans rfl; have HS5 := Aside0.mk HQ.1; have HL5 := Aside0.mk HQ.2; clear HQ ho hb5 hg5 hat HS4 HL4)
      have n_ : Aside0 (SInv w0 gx ga wd n (FF a b e (N ++ [(i, j)])) w5) := ⟨⟨HS5.out.box, HS5.out.tab.congr (fun q _ => HFF.out q), HS5.out.below, HS5.out.ge⟩⟩
      clear HS5
      have HS5 := n_
      clear n_ HFF HLN
      by_cases hi1 : i = 0
      · have zi : ((i : Int) == 0) = true := by rw [hi1]; rfl
        have HD := Aside0.mk (HI.out.last HN.out.1 HN.out.2 (fun x y h1 h2 => by omega))
        clear hi1
        go_quiet (fail)
        have HS6 := Aside0.mk (HS5.out.drewN nq)
        have HL6 := Aside0.mk (HL5.out.drewN nq)
        clear HS5 HL5 p0 p1
        generalize w5.drewN nq = w6 at HS6 HL6 ⊢
        go_wp2
        go_ret
        exact ⟨_, N ++ [(i, j)], rfl, HD.out, HS6.out, Kd.R_mono HL6.out.row (fun _ _ => trivial), HL6.out.kept, HL6.out.own⟩
      · have zi : ((i : Int) == 0) = false := by rw [beq_eq_false_iff_ne]; omega
        obtain ⟨x, hx⟩ : ∃ x, i = x + 1 := ⟨i - 1, by omega⟩
        by_cases hj1 : j = 0
        · have zj : ((j : Int) == 0) = true := by rw [hj1]; rfl
          have HD := Aside0.mk (HI.out.last HN.out.1 HN.out.2 (fun x y h1 h2 => by omega))
          clear hi1 hj1 hx
          go_quiet (fail)
          have HS6 := Aside0.mk (HS5.out.drewN nq)
          have HL6 := Aside0.mk (HL5.out.drewN nq)
          clear HS5 HL5 p0 p1
          generalize w5.drewN nq = w6 at HS6 HL6 ⊢
          go_wp2
          go_ret
          exact ⟨_, N ++ [(i, j)], rfl, HD.out, HS6.out, Kd.R_mono HL6.out.row (fun _ _ => trivial), HL6.out.kept, HL6.out.own⟩
        · have zj : ((j : Int) == 0) = false := by rw [beq_eq_false_iff_ne]; omega
          obtain ⟨y, hy⟩ : ∃ y, j = y + 1 := ⟨j - 1, by omega⟩
          have qx : IntKind.i64.wrap ((i : Int) - 1) = (x : Int) := by
            rw [show (i : Int) - 1 = (x : Int) by omega]
            exact wrap_small _ (by omega) (by omega)
          have qy : IntKind.i64.wrap ((j : Int) - 1) = (y : Int) := by
            rw [show (j : Int) - 1 = (y : Int) by omega]
            exact wrap_small _ (by omega) (by omega)
          have hxa : x < a.size := by omega
          have hyb : y < b.size := by omega
          have b2 : (0 : Int) ≤ (x : Int) ∧ (x : Int) < (a.size : Int) := by omega
          have b3 : (0 : Int) ≤ (y : Int) ∧ (y : Int) < (b.size : Int) := by omega
          obtain ⟨ca, hca⟩ : ∃ ca : Int, ∀ h : x < a.size, ((a[x]'h).toNat : Int) = ca := ⟨((a[x]'hxa).toNat : Int), fun _ => rfl⟩
          obtain ⟨cb, hcb⟩ : ∃ cb : Int, ∀ h : y < b.size, ((b[y]'h).toNat : Int) = cb := ⟨((b[y]'hyb).toNat : Int), fun _ => rfl⟩
          have HQ : Aside0 (ca = cb ↔ Mt a b x y) := ⟨by
            constructor
            · intro h
              exact ⟨hxa, hyb, UInt8.toNat_inj.1 (by have h1 := hca hxa; have h2 := hcb hyb; omega)⟩
            · rintro ⟨h1, h2, h3⟩
              rw [← hca h1, ← hcb h2, h3]⟩
          have HXY := Aside0.mk (And.intro hx hy)
          clear hi1 hj1 hx hy
          by_cases hq : ca = cb
          · have hq1 : (ca == cb) = true := by rw [hq]; exact beq_self_eq_true _
            have hq2 : (ca != cb) = false := by rw [hq]; exact bne_self_eq_false _
            have HD : Aside0 (RInv a b e N0 i0 j0 (N ++ [(i, j)]) x y) := ⟨by
              have h1 := HI.out
              have h2 := HN.out
              rw [HXY.out.1, HXY.out.2] at h1 h2 ⊢
              exact h1.next h2.1 h2.2 (HQ.out.1 hq)⟩
            clear hq
            go_quiet (fail)
            have HS6 := Aside0.mk (HS5.out.drewN nq)
            have HL6 := Aside0.mk (HL5.out.drewN nq)
            clear HS5 HL5 p0 p1
            generalize w5.drewN nq = w6 at HS6 HL6 ⊢
            have p0 : w6.cell? ⟨gp, 0, none⟩ = some (.int .i64 (i : Int)) := (blk_cell HL6.out.pos 0).trans rfl
            have p1 : w6.cell? ⟨gp, 1, none⟩ = some (.int .i64 (j : Int)) := (blk_cell HL6.out.pos 1).trans rfl
            have f0 := blk_frozen HL6.out.pos 0
            have f1 := blk_frozen HL6.out.pos 1
            have HQ2 := reach_step HS6.out HL6.out H0.out x y
            have HS7 := Aside0.mk HQ2.1
            have HL7 := Aside0.mk HQ2.2
            have PX : Aside0 (cellI ((w6.setCell ⟨gp, 0, none⟩ (.int .i64 (x : Int))).setCell ⟨gp, 1, none⟩ (.int .i64 (y : Int))) ⟨gp, 0, none⟩ = (x : Int)) := ⟨cellI_of ((blk_cell HQ2.2.pos 0).trans rfl)⟩
            clear HQ2 HS6 HL6
            go_wp2
            go_roundw
            case rel => exact ⟨x, y, N ++ [(i, j)], HD, HS7, HL7⟩
            case measure => rw [PW.out, PX.out, HXY.out.1]; omega
          · have hq1 : (ca == cb) = false := by simpa using hq
            have hq2 : (ca != cb) = true := by simpa using hq
            have HD := Aside0.mk (HI.out.last HN.out.1 HN.out.2 (fun x' y' h1 h2 h3 => by
              have e1 : x' = x := by have := HXY.out.1; omega
              have e2 : y' = y := by have := HXY.out.2; omega
              subst e1; subst e2
              exact hq (HQ.out.2 h3)))
            clear hq
            go_quiet (fail)
            have HS6 := Aside0.mk (HS5.out.drewN nq)
            have HL6 := Aside0.mk (HL5.out.drewN nq)
            clear HS5 HL5 p0 p1
            generalize w5.drewN nq = w6 at HS6 HL6 ⊢
            go_wp2
            go_ret
            exact ⟨_, N ++ [(i, j)], rfl, HD.out, HS6.out, Kd.R_mono HL6.out.row (fun _ _ => trivial), HL6.out.kept, HL6.out.own⟩
end Go.Proofs.Ytjnciljimacblaa.Q
/- The reference's search: the walk. Conditions: the lengths. -/
namespace Go.Proofs.Ytjnciljimacblaa.Q
open Go.RowKit Go.Proofs.YtjnciljimacblaaW.PrintWords Go.Proofs.YtjnciljimacblaaW.PrintLast Go.Proofs.YtjnciljimacblaaW.PrintMore
set_option linter.unusedVariables false
set_option linter.unusedSimpArgs false
set_option maxRecDepth 100000
theorem info3 : (Try.prog.info? 3).map (fun i => (i.zero, i.size, i.bytes)) = some (some (.int .i64 0), 1, 8) := by kernel_rfl
theorem make_event {ops : Array Oper} {rest : List Oper} {o : Oper} {a : Act} {Q : Exit → Act → World → Prop} {W : World} (hgd : o.guard = none) {N : Tmp} (hd : o.dst = some N) (x y : Operand) (ho : o.op = .makeSlice 79 x y) (m : Nat)
    (hx : a.eval x = .int .i64 (m : Int)) (hy : a.eval y = .int .i64 (m : Int)) (hl : m ≤ 1000000)
    (h : ∀ ga, ga = W.heap.size → ∀ w1, BlkI .i64 w1 ga 3 m (fun _ => 0) → Below W.heap.size W w1 → wpList Try.prog ops Q rest (a.put o.dst (.slice (some ⟨ga, 0, none⟩) m m)) w1) : wpList Try.prog ops Q (o :: rest) a W := by
  obtain ⟨i0, hi, hzz⟩ := Option.map_eq_some_iff.1 info3
  simp only [Prod.mk.injEq] at hzz
  obtain ⟨hz0, hz1, hz2⟩ := hzz
  have hr := run_make (P := Try.prog) W 79 3 i0 (.int .i64 0) Try.underlying79 hi hz0 .i64 .i64 (m : Int) (m : Int) (by omega) (by omega)
    (by
      have h3 : ((i0.bytes * m : Nat) : Int) ≤ 281474976710656 := by rw [hz2]; omega
      rwa [Int.natCast_mul] at h3) (by omega)
  simp only [Int.toNat_natCast] at hr
  rw [hz1] at hr
  have hrun : (execOp a.eval o).run Try.prog W = .ok (.value (.slice (some ⟨W.heap.size, 0, none⟩) m m)) (W.alloc (.cells (madeCells (Value.int .i64 0).cells (m * 1)) 3)) := by
    simp [execOp, ho, hx, hy, hr]
  refine Kd.event_run hgd hrun (h _ rfl _ ⟨?_, madeCells (Value.int .i64 0).cells (m * 1), (0, 0), heap_alloc_new _ _, .inl rfl, ?_, fun j hj => ?_⟩ (below_alloc (Below.refl _ _) _))
  · exact blk_lt (heap_alloc_new _ _)
  · simp [size_madeCells]
  · have e : (madeCells (Value.int .i64 0).cells (m * 1)).toList = List.replicate (m * 1) (.int .i64 0) := toList_madeCells_one _ _
    rw [← Array.getElem?_toList, e, List.getElem?_replicate, if_pos (by omega)]
theorem sinv_start {w w1 : World} {ga n wd : Nat} (a b : ByteArray) (ht : BlkI .i64 w1 ga 3 n (fun _ => 0)) (hb : Below w.heap.size w w1) (hge : w.heap.size ≤ ga) :
    SInv w w1.heap.size ga wd n (FF a b 0 []) (w1.alloc (.cells #[.int .i64 (wd : Int), .slice (some ⟨ga, 0, none⟩) n n] 81 (0, 0))) :=
  ⟨heap_alloc_new _ _, (ht.below (below_alloc (Below.refl _ _) _)).congr (fun j _ => by unfold FF; rw [if_neg (by omega), if_neg (by simp)]), below_alloc hb _, hge⟩
theorem alloc_pair (W : World) (x y u v : Value) : ((((W.alloc (.cells #[x, y] 92 (0, 0))).setCell ⟨W.heap.size, 0, none⟩ u).setCell ⟨W.heap.size, 1, none⟩ v).heap[W.heap.size]? = some (.cells #[u, v] 92 (0, 0))) ∧ Below W.heap.size W (((W.alloc (.cells #[x, y] 92 (0, 0))).setCell ⟨W.heap.size, 0, none⟩ u).setCell ⟨W.heap.size, 1, none⟩ v) :=
  ⟨two_set (heap_alloc_new _ _), blk_below_set (blk_below_set (below_alloc (Below.refl _ _) _) (Nat.le_refl _) 0 _) (Nat.le_refl _) 1 _⟩
theorem own_next {W0 : World} {v0 v : Value} {g : Nat} (hlt : g < W0.heap.size) (hne : v0.ownBlock ≠ some g) (ho : v.ownBlock = v0.ownBlock ∨ ∃ b, v.ownBlock = some b ∧ W0.heap.size ≤ b) : v.ownBlock ≠ some g := by
  rcases ho with h | ⟨b, h, h2⟩
  · rw [h]; exact hne
  · rw [h]; intro e; injection e with e; omega
/-- While the places one edit nearer are looked at. -/
structure KInv (w : World) (gx ga wd n : Nat) (a b : ByteArray) (E : Nat) (L : List (Nat × Nat)) (vL : Value) (N : List (Nat × Nat)) (v : Value) (W : World) : Prop where
  s : SInv w gx ga wd n (FF a b E N) W
  row : k92.R 92 W w.heap.size (fun _ => True) v (N.map pl)
  good : Good a b E N
  shut : Shut a b N
  lrow : k92.R 92 W w.heap.size (fun q => some q = vL.ownBlock) vL (L.map pl)
  ne : ∀ q, vL.ownBlock = some q → v.ownBlock ≠ some q
section
variable {w W W1 : World} {gx ga wd n E : Nat} {a b : ByteArray} {L N N' : List (Nat × Nat)} {vL v v' : Value}
theorem KInv.below (h : KInv w gx ga wd n a b E L vL N v W) (hb : Below W.heap.size W W1) : KInv w gx ga wd n a b E L vL N v W1 :=
  ⟨h.s.kept (Kept.of_below hb (fun _ => False)) id id (below_step h.s.below hb), Kd.R_below h.row hb, h.good, h.shut, Kd.R_below h.lrow hb, h.ne⟩
theorem KInv.reach {i j : Nat} (h : KInv w gx ga wd n a b E L vL N v W) (hd : RDone a b E N i j N') (hs : SInv w gx ga wd n (FF a b E N') W1) (hr : k92.R 92 W1 w.heap.size (fun _ => True) v' (N'.map pl)) (hk : Kept W W1 (fun q => q = ga ∨ some q = v.ownBlock))
    (ho : v'.ownBlock = v.ownBlock ∨ ∃ b, v'.ownBlock = some b ∧ W.heap.size ≤ b) : KInv w gx ga wd n a b E L vL N' v' W1 := by
  obtain ⟨C, fz, hC, _⟩ := h.s.tab.at_
  have M := own_ne92 h.lrow hC (by decide)
  refine ⟨hs, hr, hd.good, hd.shut, Kd.R_kept h.lrow hk (fun q hq e => ?_), fun q hq => own_next (Kd.R_lt h.lrow q hq) (h.ne q hq) ho⟩
  rcases e with e | e
  · exact M (by rw [← e]; exact hq)
  · exact h.ne q hq.symm e.symm
end
theorem pos_next {w W W1 : World} {gx ga wd n E gp : Nat} {a b : ByteArray} {L N : List (Nat × Nat)} {vL v v' x y : Value} (h : KInv w gx ga wd n a b E L vL N v W) (hp : W.heap[gp]? = some (.cells #[x, y] 92 (0, 0)) ∧ v.ownBlock ≠ some gp) (hk : Kept W W1 (fun q => q = ga ∨ some q = v.ownBlock))
    (ho : v'.ownBlock = v.ownBlock ∨ ∃ b, v'.ownBlock = some b ∧ W.heap.size ≤ b) : W1.heap[gp]? = some (.cells #[x, y] 92 (0, 0)) ∧ v'.ownBlock ≠ some gp := by
  obtain ⟨C, fz, hC, _⟩ := h.s.tab.at_
  refine ⟨blk_kept hp.1 hk (fun e => ?_), own_next (blk_lt hp.1) hp.2 ho⟩
  rcases e with e | e
  · exact blk_other hC hp.1 (by decide) e.symm
  · exact hp.2 e.symm
theorem L_cells {W : World} {base g c k i j : Nat} {ok : Nat → Prop} {L : List (Nat × Nat)} (h : k92.R 92 W base ok (.slice (some ⟨g, 0, none⟩) L.length c) (L.map pl)) (hk : L[k]? = some (i, j)) :
    W.cell? ⟨g, k * 2, none⟩ = some (.int .i64 (i : Int)) ∧ W.cell? ⟨g, k * 2 + 1, none⟩ = some (.int .i64 (j : Int)) := by
  have hlt : k < L.length := (List.getElem?_eq_some_iff.1 hk).1
  obtain ⟨cs, hcl, hM, hcc, hfr⟩ := Kd.R_elem h z92 (k : Int) (by omega) (by omega)
  have e : (L.map pl).getD (k : Int).toNat z92 = pl (i, j) := by rw [Int.toNat_natCast, List.getD_eq_getElem?_getD, List.getElem?_map, hk]; rfl
  rw [e] at hM
  have hM2 : cs = [.int .i64 (i : Int), .int .i64 (j : Int)] := by
    obtain ⟨_, _, rfl, rfl, rfl⟩ := hM
    exact rfl
  subst hM2
  exact ⟨hcc 0 _ rfl, hcc 1 _ rfl⟩
attribute [local go_sem] max2_int min2_int max_two min_two max_three min_three max_four min_four
set_option maxHeartbeats 4000000 in
theorem search_calls0 (a b : ByteArray) (w : World) (wd n : Nat) (hwd : wd = b.size + 1) (hn : n = (a.size + 1) * (b.size + 1)) (ha : a.size ≤ 512) (hb : b.size ≤ 512) : Calls Try.prog 41 #[.string a, .string b] w fun ex w' => ∃ gx ga : Nat, ex = .returned (.pointer (some ⟨gx, 0, none⟩)) ∧ SInv w gx ga wd n (fun p => (dd a b (p / (b.size + 1)) (p % (b.size + 1)) : Int) + 1) w' := by
  have hu92 := Try.underlying92
  have HB := Aside0.mk (Below.refl w.heap.size w)
  have hnl : n ≤ 513 * 513 := by rw [hn]; exact Nat.mul_le_mul (by omega) (by omega)
  have HW := Aside0.mk (And.intro hwd hn)
  have q1 : IntKind.i64.wrap ((b.size : Int) + 1) = (wd : Int) := by
    rw [show (b.size : Int) + 1 = (wd : Int) by omega]
    exact wrap_small _ (by omega) (by omega)
  obtain ⟨ad, had⟩ : ∃ ad : Nat, ad = a.size + 1 := ⟨_, rfl⟩
  have q2 : IntKind.i64.wrap ((a.size : Int) + 1) = (ad : Int) := by
    rw [show (a.size : Int) + 1 = (ad : Int) by omega]
    exact wrap_small _ (by omega) (by omega)
  have q3 : IntKind.i64.wrap ((ad : Int) * (wd : Int)) = (n : Int) := by
    rw [show (ad : Int) * (wd : Int) = (n : Int) by rw [had, hwd, hn]; simp]
    exact wrap_small _ (by omega) (by omega)
  clear hwd hn had
  go_enter Try.func41, Try.ntmps41
  go_wp2_with (first
    | ((with_reducible refine gate_dst (N := 21) rfl ?_); refine make_event rfl rfl (.tmp 20) (.tmp 20) rfl n rfl rfl (by omega) ?_; intro ga hga w1 ht hbl; have HT := Aside0.mk ht; have HG : Aside0 (w.heap.size ≤ ga) := ⟨by rw [hga]; exact HB.out.size⟩; have n_ := Aside0.mk (below_step HB.out hbl); clear HB hbl ht hga; have HB := n_; clear n_)
    | (go_at_call 45; refine (reach_calls w _ w1.heap.size ga wd n a b HW.out.1 HW.out.2 a.size b.size 0 [] (.slice none 0 0) (sinv_start a b HT.out HB.out HG.out) (Kd.R_nil _ _ _ _ _) nil_good nil_shut (Nat.le_refl _) (Nat.le_refl _) (by rw [dd_end]; exact Nat.le_refl _) (by omega) ha hb).mono ?_; rintro ex w2 ⟨v, N, rfl, hd, hs, hr, hk, ho⟩; have HS : Aside0 (SInv w w1.heap.size ga wd n (FF a b 0 N) w2) := ⟨hs⟩; have HR := Aside0.mk hr; have HD := Aside0.mk hd; clear hd hs hr hk ho))
  clear HB HT HG q1 q2 q3
  obtain ⟨gx, hgx⟩ : ∃ gx, gx = w1.heap.size := ⟨_, rfl⟩
  rw [← hgx] at HS ⊢
  clear hgx
  have HI : Aside0 (SInv w gx ga wd n (FF a b 1 []) w2 ∧ Good a b 0 N ∧ Shut a b N ∧ Whole a b 0 N) := ⟨⟨⟨HS.out.box, HS.out.tab.congr (fun j hj => FF_next (whole_start HD.out) HD.out.good (by rw [← HW.out.2]; exact hj)), HS.out.below, HS.out.ge⟩, HD.out.good, HD.out.shut, whole_start HD.out⟩⟩
  clear HS HD
  go_loopw [6, 7] (fun v6 v7 wr => ∃ (e E : Nat) (L : List (Nat × Nat)), E ≤ 1026 ∧ v7 = .int .i64 (E : Int) ∧ Aside0 (E = e + 1) ∧ Aside0 (SInv w gx ga wd n (FF a b E []) wr ∧ Good a b e L ∧ Shut a b L ∧ Whole a b e L) ∧ Aside0 (k92.R 92 wr w.heap.size (fun _ => True) v6 (L.map pl))) (fun _ v7 _ => 2000 - (intOf v7).toNat)
  case atStart => exact ⟨0, 1, N, by omega, rfl, ⟨rfl⟩, HI, HR⟩
  case round =>
    clear HI HR
    obtain ⟨e, E, L, hE, rfl, HE, HI, HR⟩ := hrel
    by_cases hL : L = []
    · obtain ⟨A, m, c, rfl, hm⟩ : ∃ (A : Option Addr) (m c : Nat), u6 = .slice A m c ∧ m = 0 := by
        obtain ⟨A, c, h⟩ := Kd.R_slice HR.out
        exact ⟨A, _, c, h, by rw [hL]; rfl⟩
      have t1 : decide ((m : Int) > 0) = false := decide_eq_false (by omega)
      have t2 : decide (0 < m) = false := decide_eq_false (by omega)
      have HF : Aside0 (∀ p, p < n → FF a b E [] p = (dd a b (p / (b.size + 1)) (p % (b.size + 1)) : Int) + 1) := ⟨fun p hp => by
        have hx : p / (b.size + 1) ≤ a.size := by
          rw [HW.out.2] at hp
          have := (Nat.div_lt_iff_lt_mul (show 0 < b.size + 1 by omega)).2 hp
          omega
        have hy : p % (b.size + 1) ≤ b.size := by
          have := Nat.mod_lt p (show b.size + 1 > 0 by omega)
          omega
        have hW := HI.out.2.2.2
        rw [hL] at hW
        have h1 := all_near hW _ _ hx hy
        unfold FF
        rw [if_pos (by have := HE.out; omega)]⟩
      clear hm hL
      go_wp2
      go_ret
      exact ⟨gx, ga, rfl, HI.out.1.box, HI.out.1.tab.congr HF.out, HI.out.1.below, HI.out.1.ge⟩
    · obtain ⟨gl, cl, hvL⟩ : ∃ (gl cl : Nat), u6 = .slice (some ⟨gl, 0, none⟩) L.length cl := by
        obtain ⟨g, c, h, _⟩ := Kd.R_form HR.out (by rw [List.length_map]; exact List.length_pos_iff.2 hL)
        exact ⟨g, c, by rw [h, List.length_map]⟩
      subst hvL
      have hEl : E ≤ 1025 := by
        obtain ⟨⟨x, y⟩, L', rfl⟩ := List.exists_cons_of_ne_nil hL
        have h1 := (HI.out.2.1.rng x y (by simp)).2.2
        have h2 := dd_le a b x y
        have := HE.out
        omega
      have hLl : L.length ≤ 300000 := by
        have h1 := HI.out.2.1.length_le
        have h2 : (a.size + 1) * (b.size + 1) ≤ 513 * 513 := Nat.mul_le_mul (by omega) (by omega)
        omega
      have t1 : decide ((L.length : Int) > 0) = true := decide_eq_true (by have := List.length_pos_iff.2 hL; omega)
      have t2 : decide (0 < L.length) = true := decide_eq_true (List.length_pos_iff.2 hL)
      have HK : Aside0 (KInv w gx ga wd n a b E L (.slice (some ⟨gl, 0, none⟩) L.length cl) [] (.slice none 0 0) wr) := ⟨⟨HI.out.1, Kd.R_nil _ _ _ _ _, nil_good, nil_shut, Kd.R_tight rfl HR.out, fun q _ e => by cases e⟩⟩
      have HJ : Aside0 (Good a b e L ∧ Shut a b L ∧ Whole a b e L) := ⟨HI.out.2⟩
      clear HI HR hL
      go_wp2
      clear t1 t2
      obtain ⟨wo, rfl⟩ : ∃ wo : World, wo = wr := ⟨_, rfl⟩
      go_loopw [8, 9] (fun v8 v9 wr => ∃ (k : Nat) (N : List (Nat × Nat)), k ≤ L.length ∧ v9 = .int .i64 (k : Int) ∧ Aside0 (KInv w gx ga wd n a b E L (.slice (some ⟨gl, 0, none⟩) L.length cl) N v8 wr) ∧ Aside0 (Seen a b E L k N)) (fun _ v9 _ => L.length - (intOf v9).toNat)
      case atStart => exact ⟨0, [], by omega, rfl, HK, ⟨Seen.zero⟩⟩
      case round =>
        clear HK
        obtain ⟨k, N, hk, rfl, HK, HSe⟩ := hrel
        by_cases hkl : k < L.length
        · obtain ⟨⟨i, j⟩, hij⟩ : ∃ p, L[k]? = some p := ⟨_, List.getElem?_eq_getElem hkl⟩
          have HIJ := Aside0.mk hij
          obtain ⟨c1, c2⟩ := L_cells HK.out.lrow hij
          obtain ⟨hi, hj, hdd⟩ := HJ.out.1.rng i j (List.mem_of_getElem? hij)
          have HD := Aside0.mk hdd
          have t1 : decide ((k : Int) < (L.length : Int)) = true := decide_eq_true (by omega)
          have b1 : (0 : Int) ≤ (k : Int) ∧ (k : Int) < (L.length : Int) := by omega
          clear hij hdd
          go_upto_region 11 with (fail)
          (try simp only [Act.put, List.setIfInBounds_toArray, List.set_cons_zero, List.set_cons_succ])
          have HP : Aside0 ((wr.alloc (.cells #[.int .i64 (i : Int), .int .i64 (j : Int)] 92 (0, 0))).heap[wr.heap.size]? = some (.cells #[.int .i64 (i : Int), .int .i64 (j : Int)] 92 (0, 0)) ∧ u8.ownBlock ≠ some wr.heap.size) := ⟨⟨heap_alloc_new _ _, fun e => by have := Kd.R_lt HK.out.row _ e; omega⟩⟩
          have n_ := Aside0.mk (HK.out.below (below_alloc (Below.refl _ _) (.cells #[.int .i64 (i : Int), .int .i64 (j : Int)] 92 (0, 0))))
          clear HK c1 c2
          have HK := n_
          clear n_
          generalize wr.alloc (.cells #[.int .i64 (i : Int), .int .i64 (j : Int)] 92 (0, 0)) = w3 at HP HK ⊢
          obtain ⟨gp, hgp⟩ : ∃ gp, gp = wr.heap.size := ⟨_, rfl⟩
          rw [← hgp] at HP ⊢
          clear hgp
          have p0 : w3.cell? ⟨gp, 0, none⟩ = some (.int .i64 (i : Int)) := (blk_cell HP.out.1 0).trans rfl
          have p1 : w3.cell? ⟨gp, 1, none⟩ = some (.int .i64 (j : Int)) := (blk_cell HP.out.1 1).trans rfl
          go_upto_if 50 with (fail)
          (try simp only [Act.put, List.setIfInBounds_toArray, List.set_cons_zero, List.set_cons_succ])
          go_cut [8] (fun v8 wc => ∃ N1 : List (Nat × Nat), Aside0 (KInv w gx ga wd n a b E L (.slice (some ⟨gl, 0, none⟩) L.length cl) N1 v8 wc) ∧ Aside0 (wc.heap[gp]? = some (.cells #[.int .i64 (i : Int), .int .i64 (j : Int)] 92 (0, 0)) ∧ v8.ownBlock ≠ some gp) ∧ Aside0 (Seen a b E L k N1 ∧ ∀ z, i = z + 1 → dd a b z j < E ∨ (z, j) ∈ N1))
          case first =>
            by_cases hi0 : 0 < i
            · obtain ⟨x, hx⟩ : ∃ x, i = x + 1 := ⟨i - 1, by omega⟩
              have t3 : decide (0 < i) = true := decide_eq_true hi0
              have t4 : decide ((i : Int) > 0) = true := decide_eq_true (by omega)
              have qx : IntKind.i64.wrap ((i : Int) - 1) = (x : Int) := by
                rw [show (i : Int) - 1 = (x : Int) by omega]
                exact wrap_small _ (by omega) (by omega)
              have hxa : x < a.size := by omega
              have HX := Aside0.mk hx
              have HDD : Aside0 (dd a b x j ≤ E) := ⟨by
                have h1 := (dd_up (b := b) (j := j) hxa).1
                have h2 := HD.out
                have h3 := HE.out
                rw [hx] at h2
                omega⟩
              clear hx
              go_wp2_with (go_at_call 45; refine (reach_calls w _ gx ga wd n a b HW.out.1 HW.out.2 x j E N _ HK.out.s HK.out.row HK.out.good HK.out.shut (Nat.le_of_lt hxa) hj HDD.out (by omega) ha hb).mono ?_; rintro ex w4 ⟨v4, N4, rfl, hd, hs, hr, hk4, ho⟩; have HK4 := Aside0.mk (HK.out.reach hd hs hr hk4 ho); have HD4 := Aside0.mk hd; have HP4 : Aside0 (w4.heap[gp]? = some (.cells #[.int .i64 (i : Int), .int .i64 (j : Int)] 92 (0, 0)) ∧ v4.ownBlock ≠ some gp) := ⟨pos_next HK.out HP.out hk4 ho⟩; clear hd hs hr hk4 ho p0 p1)
              go_meet
              case rel => exact ⟨N4, HK4, HP4, ⟨⟨HSe.out.sub HD4.out.sub, fun z hz => by
                have e1 : z = x := by have := HX.out; omega
                subst e1
                exact HD4.out.got⟩⟩⟩
            · have t3 : decide (0 < i) = false := decide_eq_false hi0
              have t4 : decide ((i : Int) > 0) = false := decide_eq_false (by omega)
              have HX := Aside0.mk hi0
              go_wp2
              go_meet
              case rel => exact ⟨N, HK, HP, ⟨⟨HSe.out, fun z hz => absurd (show 0 < i by omega) HX.out⟩⟩⟩
          case rest =>
            clear HK HP HSe p0 p1
            obtain ⟨N1, HK, HP, HSe⟩ := hcut
            have p0 : wc.cell? ⟨gp, 0, none⟩ = some (.int .i64 (i : Int)) := (blk_cell HP.out.1 0).trans rfl
            have p1 : wc.cell? ⟨gp, 1, none⟩ = some (.int .i64 (j : Int)) := (blk_cell HP.out.1 1).trans rfl
            by_cases hj0 : 0 < j
            · obtain ⟨y, hy⟩ : ∃ y, j = y + 1 := ⟨j - 1, by omega⟩
              have t3 : decide (0 < j) = true := decide_eq_true hj0
              have t4 : decide ((j : Int) > 0) = true := decide_eq_true (by omega)
              have qy : IntKind.i64.wrap ((j : Int) - 1) = (y : Int) := by
                rw [show (j : Int) - 1 = (y : Int) by omega]
                exact wrap_small _ (by omega) (by omega)
              have hyb : y < b.size := by omega
              have HY := Aside0.mk hy
              have HDD : Aside0 (dd a b i y ≤ E) := ⟨by
                have h1 := (dd_left (a := a) (i := i) hyb).1
                have h2 := HD.out
                have h3 := HE.out
                rw [hy] at h2
                omega⟩
              clear hy
              go_wp2_with (go_at_call 45; refine (reach_calls w _ gx ga wd n a b HW.out.1 HW.out.2 i y E N1 _ HK.out.s HK.out.row HK.out.good HK.out.shut hi (Nat.le_of_lt hyb) HDD.out (by omega) ha hb).mono ?_; rintro ex w4 ⟨v4, N4, rfl, hd, hs, hr, hk4, ho⟩; have HK4 := Aside0.mk (HK.out.reach hd hs hr hk4 ho); have HD4 := Aside0.mk hd; clear hd hs hr hk4 ho p0 p1)
              go_roundw
              case rel => exact ⟨k + 1, N4, by omega, by go_num, HK4, ⟨Seen.step (HSe.out.1.sub HD4.out.sub) HIJ.out (fun z hz => (HSe.out.2 z hz).imp id (HD4.out.sub _)) (fun z hz => by
                have e1 : z = y := by have := HY.out; omega
                subst e1
                exact HD4.out.got)⟩⟩
              case measure => simp [intOf]; omega
            · have t3 : decide (0 < j) = false := decide_eq_false hj0
              have t4 : decide ((j : Int) > 0) = false := decide_eq_false (by omega)
              have HY := Aside0.mk hj0
              go_wp2
              go_roundw
              case rel => exact ⟨k + 1, N1, by omega, by go_num, HK, ⟨Seen.step HSe.out.1 HIJ.out HSe.out.2 (fun z hz => absurd (show 0 < j by omega) HY.out)⟩⟩
              case measure => simp [intOf]; omega
        · obtain rfl : k = L.length := by omega
          have HN : Aside0 (SInv w gx ga wd n (FF a b (E + 1) []) wr ∧ Good a b E N ∧ Shut a b N ∧ Whole a b E N) := by
            have hE2 := HE.out
            subst hE2
            have hW := whole_next HJ.out.2.2 HK.out.shut HSe.out
            exact ⟨⟨HK.out.s.box, HK.out.s.tab.congr (fun p hp => FF_next hW HK.out.good (by rw [← HW.out.2]; exact hp)), HK.out.s.below, HK.out.s.ge⟩, HK.out.good, HK.out.shut, hW⟩
          have HR := Aside0.mk HK.out.row
          have q1 : IntKind.i64.wrap ((E : Int) + 1) = (E : Int) + 1 := wrap_small _ (by omega) (by omega)
          clear HK HSe
          go_wp2
          go_roundw
          case rel => exact ⟨E, E + 1, N, by omega, by go_num, ⟨rfl⟩, HN, HR⟩
          case measure => simp [intOf]; omega
theorem search_calls (a b : ByteArray) (w : World) (ha : a.size ≤ 512) (hb : b.size ≤ 512) : Calls Try.prog 41 #[.string a, .string b] w fun ex w' => ∃ gx ga : Nat, ex = .returned (.pointer (some ⟨gx, 0, none⟩)) ∧ SInv w gx ga (b.size + 1) ((a.size + 1) * (b.size + 1)) (fun p => (dd a b (p / (b.size + 1)) (p % (b.size + 1)) : Int) + 1) w' :=
  search_calls0 a b w _ _ rfl rfl ha hb
end Go.Proofs.Ytjnciljimacblaa.Q
/- The reference's walk through both texts. Conditions: the lengths, the first number. -/
namespace Go.Proofs.Ytjnciljimacblaa.Q
open Go.RowKit Go.Proofs.YtjnciljimacblaaW.PrintWords Go.Proofs.YtjnciljimacblaaW.PrintLast Go.Proofs.YtjnciljimacblaaW.PrintMore
set_option linter.unusedVariables false
set_option linter.unusedSimpArgs false
set_option maxRecDepth 100000
/-- What the walk keeps. -/
structure WInv (w : World) (gx ga wd n : Nat) (a b : ByteArray) (ops : List S38) (v : Value) (W : World) : Prop where
  s : SInv w gx ga wd n (fun p => (dd a b (p / (b.size + 1)) (p % (b.size + 1)) : Int) + 1) W
  row : k38.R 38 W w.heap.size (fun _ => True) v ops
section
variable {w W W1 : World} {gx ga wd n : Nat} {a b : ByteArray} {ops : List S38} {v v1 : Value}
theorem WInv.drewN (h : WInv w gx ga wd n a b ops v W) (m : Nat) : WInv w gx ga wd n a b ops v (W.drewN m) := ⟨h.s.drewN m, Kd.R_drewN h.row m⟩
theorem WInv.append {x : S38} (h : WInv w gx ga wd n a b ops v W) (hrow : k38.R 38 W1 w.heap.size (fun _ => True) v1 (ops ++ [x])) (hb : Below w.heap.size w W1) (hg : W.grownBy W1 v.ownBlock) : WInv w gx ga wd n a b (ops ++ [x]) v1 W1 := by
  obtain ⟨C, fz, hC, _⟩ := h.s.tab.at_
  exact ⟨⟨blk_grown h.s.box hg (own_ne38 h.row h.s.box (by decide)), h.s.tab.grown hg (own_ne38 h.row hC (by decide)), hb, h.s.ge⟩, hrow⟩
theorem WInv.at (h : WInv w gx ga wd n a b ops v W) (hwd : wd = b.size + 1) (hn : n = (a.size + 1) * (b.size + 1)) {i j : Nat} (hi : i ≤ a.size) (hj : j ≤ b.size) : i * wd + j < n ∧ W.cell? ⟨ga, i * wd + j, none⟩ = some (.int .i64 ((dd a b i j : Int) + 1)) := by
  have hp : i * wd + j < n := by rw [hwd, hn]; exact at_lt hi hj
  refine ⟨hp, ?_⟩
  rw [h.s.tab.cell hp, hwd, (at_div hj).1, (at_div hj).2]
end
theorem dd_same (a b : ByteArray) {i j : Nat} (hi : i < a.size) (hj : j ≤ b.size) : (dd a b (i + 1) j + 1 = dd a b i j) ↔ TT a b (i + 1) j = TT a b i j := by
  have h1 := tt_le a b i j
  have h2 := tt_le a b (i + 1) j
  have h3 := dd_up (b := b) (j := j) hi
  have e1 : ∀ x y, TT a b x y = (tt a b x y : Int) := fun _ _ => rfl
  rw [e1, e1]
  unfold dd at *
  omega
theorem str_bytes (s : ByteArray) : strOfNums (bytesOf s) = s := by
  unfold strOfNums bytesOf
  rw [List.map_map]
  have e : ((fun n : Int => UInt8.ofNat n.toNat) ∘ fun b : UInt8 => (b.toNat : Int)) = id := by
    funext x
    simp
  rw [e, List.map_id]
theorem cut_one {a : ByteArray} {i : Nat} (hi : i < a.size) (W : World) : (Instr.slice 9 (.string a) (some (.int .i64 (i : Int))) (some (.int .i64 ((i : Int) + 1))) none).run Try.prog W = .ok (.string (a.extract i (i + 1))) W := by
  rw [run_slice_string W 9 a .i64 .i64 _ _ Try.underlying9 (by omega) (by omega) (by omega)]
  rfl
theorem bytes_one {s a : ByteArray} {i : Nat} (hi : i < a.size) : bytesOf (s ++ a.extract i (i + 1)) = bytesOf s ++ [(a[i].toNat : Int)] := by
  have hl : i < a.data.toList.length := by rw [data_length]; exact hi
  have e : (a.extract i (i + 1)).data.toList = [a[i]] := by
    rw [ByteArray.data_extract, Array.toList_extract, List.extract_eq_take_drop, show i + 1 - i = 1 by omega, List.drop_eq_getElem_cons hl]
    rfl
  unfold bytesOf
  rw [ByteArray.data_append, Array.toList_append, List.map_append, e]
  rfl
theorem one_size {s a : ByteArray} {i : Nat} (hi : i < a.size) : s.size + (a.extract i (i + 1)).size = s.size + 1 ∧ (s ++ a.extract i (i + 1)).size = s.size + 1 := by
  have h1 : (a.extract i (i + 1)).size = 1 := by rw [ByteArray.size_extract]; omega
  exact ⟨by rw [h1], by rw [ByteArray.size_append, h1]⟩
attribute [local go_sem] max2_int min2_int max_two min_two max_three min_three max_four min_four
set_option maxHeartbeats 4000000 in
theorem rwalk_calls0 (a b : ByteArray) (c f : Int) (w : World) (wd n : Nat) (hwd : wd = b.size + 1) (hn : n = (a.size + 1) * (b.size + 1)) (ha : a.size ≤ 512) (hb : b.size ≤ 512) (hf : 0 ≤ f ∧ f ≤ 1000) :
    Calls Try.prog 40 #[.string a, .string b, .int .i64 c, .int .i64 f] w fun ex w' => ∃ v : Value, ex = .returned (.tuple #[v, .string (keptT a b)]) ∧ k38.R 38 w' w.heap.size (fun _ => True) v (opsI c f a b 0 0 0) ∧ Below w.heap.size w w' := by
  have hu38 := Try.underlying38
  have HW := Aside0.mk (And.intro hwd hn)
  have hwl : wd ≤ 513 := by omega
  clear hwd hn
  go_enter Try.func40, Try.ntmps40
  go_wp2_with (go_at_call 41; refine (search_calls0 a b w wd n HW.out.1 HW.out.2 ha hb).mono ?_; rintro ex w2 ⟨gx, ga, rfl, hs⟩; have HI : Aside0 (WInv w gx ga wd n a b [] (.slice none 0 0) w2) := ⟨⟨hs, Kd.R_nil _ _ _ _ _⟩⟩; clear hs)
  go_loopw [11, 12, 13, 14, 15] (fun v11 v12 v13 v14 v15 wr => ∃ (i j : Nat) (ops : List S38) (s : ByteArray), i ≤ a.size ∧ j ≤ b.size ∧ v12 = .string s ∧ v13 = .int .i64 (i : Int) ∧ v14 = .int .i64 (j : Int) ∧ v15 = .int .i64 (j : Int) ∧ Aside0 (ops ++ opsI c f a b i j ops.length = opsI c f a b 0 0 0 ∧ ops.length ≤ i + j) ∧ Aside0 (bytesOf s ++ keptI a b i j = keptI a b 0 0 ∧ s.size ≤ i) ∧ Aside0 (WInv w gx ga wd n a b ops v11 wr)) (fun _ _ v13 v14 _ _ => (a.size - (intOf v13).toNat) + (b.size - (intOf v14).toNat))
  case atStart => exact ⟨0, 0, [], ByteArray.empty, Nat.zero_le _, Nat.zero_le _, rfl, rfl, rfl, rfl, ⟨⟨rfl, Nat.le_refl _⟩⟩, ⟨⟨rfl, Nat.le_refl _⟩⟩, HI⟩
  case round =>
    clear HI
    obtain ⟨i, j, ops, s, hi, hj, rfl, rfl, rfl, rfl, HS, HK, HI⟩ := hrel
    obtain ⟨A11, c11, rfl⟩ := Kd.R_slice HI.out.row
    have q1 : IntKind.i64.wrap ((i : Int) + 1) = (i : Int) + 1 := wrap_small _ (by omega) (by omega)
    have q2 : IntKind.i64.wrap ((j : Int) + 1) = (j : Int) + 1 := wrap_small _ (by omega) (by omega)
    obtain ⟨p, hp⟩ : ∃ p, p = i * wd + j := ⟨_, rfl⟩
    obtain ⟨m, hm⟩ : ∃ m, m = i * wd := ⟨_, rfl⟩
    have hm2 : m ≤ 512 * 513 := by rw [hm]; exact Nat.mul_le_mul (by omega) hwl
    obtain ⟨hpn, c0⟩ := HI.out.at HW.out.1 HW.out.2 hi hj
    rw [← hp] at hpn c0
    have q3 : IntKind.i64.wrap ((i : Int) * (wd : Int)) = (m : Int) := by
      rw [show ((i : Int) * (wd : Int)) = (m : Int) by rw [hm]; simp]
      exact wrap_small _ (by omega) (by omega)
    have q4 : IntKind.i64.wrap ((m : Int) + (j : Int)) = (p : Int) := by
      rw [show ((m : Int) + (j : Int)) = (p : Int) by omega]
      exact wrap_small _ (by omega) (by omega)
    have b1 : (0 : Int) ≤ (p : Int) ∧ (p : Int) < (n : Int) := by omega
    have x0 : wr.cell? ⟨gx, 0, none⟩ = some (.int .i64 (wd : Int)) := (blk_cell HI.out.s.box 0).trans rfl
    have x1 : wr.cell? ⟨gx, 1, none⟩ = some (.slice (some ⟨ga, 0, none⟩) n n) := (blk_cell HI.out.s.box 1).trans rfl
    have hdl := dd_le a b i j
    obtain ⟨y0, hy0⟩ : ∃ y : Int, y = (dd a b i j : Int) + 1 := ⟨_, rfl⟩
    rw [← hy0] at c0
    have HP : Aside0 (p = i * wd + j ∧ m = i * wd ∧ y0 = (dd a b i j : Int) + 1) := ⟨⟨hp, hm, hy0⟩⟩
    have q5 : IntKind.i64.wrap (y0 - 1) = y0 - 1 := wrap_small _ (by omega) (by omega)
    have q6 : IntKind.i64.wrap (f + (ops.length : Int)) = f + (ops.length : Int) := wrap_small _ (by have := HS.out.2; omega) (by have := HS.out.2; omega)
    have hlen : ops.length ≤ 1024 := by have := HS.out.2; omega
    clear hp hm hy0 hm2 hdl
    by_cases hend : i = a.size ∧ j = b.size
    · have ui : decide (i < a.size) = false := decide_eq_false (by omega)
      have uj : decide (j < b.size) = false := decide_eq_false (by omega)
      have hia : ¬ i < a.size := by omega
      have hjb : ¬ j < b.size := by omega
      have HE : Aside0 (ops = opsI c f a b 0 0 0 ∧ s = keptT a b) := ⟨by
        have h1 := HS.out.1
        have h2 := HK.out.1
        rw [opsI_end c f a b (by omega) (by omega), List.append_nil] at h1
        rw [keptI_end1 a b i j (by omega), List.append_nil] at h2
        refine ⟨h1, ?_⟩
        unfold keptT
        rw [← h2]
        exact (str_bytes s).symm⟩
      go_wp2
      go_ret2
      exact ⟨_, by rw [HE.out.2]; rfl, by rw [← HE.out.1]; exact HI.out.row, HI.out.s.below⟩
    · obtain ⟨ca, hca⟩ : ∃ ca : Int, ∀ h : i < a.size, ((a[i]'h).toNat : Int) = ca := by
        by_cases h : i < a.size
        · exact ⟨((a[i]'h).toNat : Int), fun _ => rfl⟩
        · exact ⟨0, fun h2 => absurd h2 h⟩
      obtain ⟨cb, hcb⟩ : ∃ cb : Int, ∀ h : j < b.size, ((b[j]'h).toNat : Int) = cb := by
        by_cases h : j < b.size
        · exact ⟨((b[j]'h).toNat : Int), fun _ => rfl⟩
        · exact ⟨0, fun h2 => absurd h2 h⟩
      by_cases hia : i < a.size
      · have ui : decide (i < a.size) = true := decide_eq_true hia
        have b5 : (0 : Int) ≤ (i : Int) ∧ (i : Int) < (a.size : Int) := by omega
        obtain ⟨p1, hp⟩ : ∃ p, p = (i + 1) * wd + j := ⟨_, rfl⟩
        obtain ⟨m1, hm⟩ : ∃ m, m = (i + 1) * wd := ⟨_, rfl⟩
        have hm2 : m1 ≤ 512 * 513 := by rw [hm]; exact Nat.mul_le_mul (by omega) hwl
        obtain ⟨hpn1, c1⟩ := HI.out.at HW.out.1 HW.out.2 hia hj
        rw [← hp] at hpn1 c1
        have q7 : IntKind.i64.wrap (((i : Int) + 1) * (wd : Int)) = (m1 : Int) := by
          rw [show (((i : Int) + 1) * (wd : Int)) = (m1 : Int) by rw [hm]; simp]
          exact wrap_small _ (by omega) (by omega)
        have q8 : IntKind.i64.wrap ((m1 : Int) + (j : Int)) = (p1 : Int) := by
          rw [show ((m1 : Int) + (j : Int)) = (p1 : Int) by omega]
          exact wrap_small _ (by omega) (by omega)
        have b2 : (0 : Int) ≤ (p1 : Int) ∧ (p1 : Int) < (n : Int) := by omega
        obtain ⟨y1, hy1⟩ : ∃ y : Int, y = (dd a b (i + 1) j : Int) + 1 := ⟨_, rfl⟩
        rw [← hy1] at c1
        have HP1 : Aside0 (p1 = (i + 1) * wd + j ∧ y1 = (dd a b (i + 1) j : Int) + 1) := ⟨⟨hp, hy1⟩⟩
        have HT : Aside0 (y1 = y0 - 1 ↔ TT a b (i + 1) j = TT a b i j) := ⟨by
          rw [← dd_same a b hia hj, hy1, HP.out.2.2]
          omega⟩
        clear hp hm hm2 hy1
        by_cases hjb : j < b.size
        · have uj : decide (j < b.size) = true := decide_eq_true hjb
          have b6 : (0 : Int) ≤ (j : Int) ∧ (j : Int) < (b.size : Int) := by omega
          have HQ : Aside0 (ca = cb ↔ a[i] = b[j]) := ⟨by
            rw [← hca hia, ← hcb hjb]
            constructor
            · intro e; exact UInt8.toNat_inj.1 (by omega)
            · intro e; rw [e]⟩
          have HOS := Aside0.mk (opsI_step c f a b hia hjb ops.length)
          have HKS := Aside0.mk (keptI_step a b hia hjb)
          have HCA := Aside0.mk (hca hia)
          have HCB := Aside0.mk (hcb hjb)
          by_cases hq : ca = cb
          · have hq1 : (ca == cb) = true := by rw [hq]; exact beq_self_eq_true _
            have HO2 : Aside0 (ops ++ opsI c f a b (i + 1) (j + 1) ops.length = opsI c f a b 0 0 0 ∧ ops.length ≤ (i + 1) + (j + 1)) := ⟨by
              have h1 := HS.out.1
              rw [HOS.out, if_pos (HQ.out.1 hq)] at h1
              exact ⟨h1, by have := HS.out.2; omega⟩⟩
            have HK2 : Aside0 ((bytesOf s ++ [ca]) ++ keptI a b (i + 1) (j + 1) = keptI a b 0 0) := ⟨by
              have h1 := HK.out.1
              rw [HKS.out, if_pos (HQ.out.1 hq), HCA.out] at h1
              rw [List.append_assoc]
              exact h1⟩
            clear hq
            go_wp2
            go_quiet (fail)
            have n_ := Aside0.mk (HI.out.drewN nq)
            clear HI x0 x1 c0 c1
            have HI := n_
            clear n_
            generalize wr.drewN nq = wq1 at HI ⊢
            have x0 : wq1.cell? ⟨gx, 0, none⟩ = some (.int .i64 (wd : Int)) := (blk_cell HI.out.s.box 0).trans rfl
            have x1 : wq1.cell? ⟨gx, 1, none⟩ = some (.slice (some ⟨ga, 0, none⟩) n n) := (blk_cell HI.out.s.box 1).trans rfl
            have c0 : wq1.cell? ⟨ga, p, none⟩ = some (.int .i64 y0) := by rw [HP.out.1, HP.out.2.2]; exact (HI.out.at HW.out.1 HW.out.2 hi hj).2
            have c1 : wq1.cell? ⟨ga, p1, none⟩ = some (.int .i64 y1) := by rw [HP1.out.1, HP1.out.2]; exact (HI.out.at HW.out.1 HW.out.2 hia hj).2
            go_wp2
            go_quiet (fail)
            have n_ := Aside0.mk (HI.out.drewN nq)
            clear HI x0 x1 c0 c1
            have HI := n_
            clear n_
            generalize wq1.drewN nq = wq2 at HI ⊢
            have x0 : wq2.cell? ⟨gx, 0, none⟩ = some (.int .i64 (wd : Int)) := (blk_cell HI.out.s.box 0).trans rfl
            have x1 : wq2.cell? ⟨gx, 1, none⟩ = some (.slice (some ⟨ga, 0, none⟩) n n) := (blk_cell HI.out.s.box 1).trans rfl
            have c0 : wq2.cell? ⟨ga, p, none⟩ = some (.int .i64 y0) := by rw [HP.out.1, HP.out.2.2]; exact (HI.out.at HW.out.1 HW.out.2 hi hj).2
            have c1 : wq2.cell? ⟨ga, p1, none⟩ = some (.int .i64 y1) := by rw [HP1.out.1, HP1.out.2]; exact (HI.out.at HW.out.1 HW.out.2 hia hj).2
            have hsl := fun W => cut_one hia W
            have hso := one_size (s := s) hia
            have hcat : ¬ 9223372036854775807 < s.size + (a.extract i (i + 1)).size := by rw [hso.1]; have := HK.out.2; omega
            have HSO := Aside0.mk hso
            clear hso
            go_wp2
            go_roundw
            case rel => exact ⟨i + 1, j + 1, ops, s ++ a.extract i (i + 1), by omega, by omega, rfl, by go_num, by go_num, by go_num, HO2, ⟨⟨by rw [bytes_one hia, HCA.out]; exact HK2.out, by rw [HSO.out.2]; have := HK.out.2; omega⟩⟩, HI⟩
            case measure => simp [intOf]; omega
          · have hq1 : (ca == cb) = false := by simpa using hq
            by_cases ht : y1 = y0 - 1
            · have ht1 : (y1 == y0 - 1) = true := by rw [ht]; exact beq_self_eq_true _
              have HO2 : Aside0 ((ops ++ [(⟨2, (j : Int), 0, c, f + (ops.length : Int)⟩ : S38)]) ++ opsI c f a b (i + 1) j (ops ++ [(⟨2, (j : Int), 0, c, f + (ops.length : Int)⟩ : S38)]).length = opsI c f a b 0 0 0 ∧ (ops ++ [(⟨2, (j : Int), 0, c, f + (ops.length : Int)⟩ : S38)]).length ≤ (i + 1) + j) := ⟨by
                have h1 := HS.out.1
                rw [HOS.out, if_neg (fun e => hq (HQ.out.2 e)), if_pos (HT.out.1 ht)] at h1
                rw [List.append_assoc, List.length_append]
                exact ⟨h1, by have := HS.out.2; simp; omega⟩⟩
              have HK2 : Aside0 (bytesOf s ++ keptI a b (i + 1) j = keptI a b 0 0 ∧ s.size ≤ i + 1) := ⟨by
                have h1 := HK.out.1
                rw [HKS.out, if_neg (fun e => hq (HQ.out.2 e)), if_pos (HT.out.1 ht)] at h1
                exact ⟨h1, by have := HK.out.2; omega⟩⟩
              clear hq ht
              go_wp2
              go_quiet (fail)
              have n_ := Aside0.mk (HI.out.drewN nq)
              clear HI x0 x1 c0 c1
              have HI := n_
              clear n_
              generalize wr.drewN nq = wq3 at HI ⊢
              have x0 : wq3.cell? ⟨gx, 0, none⟩ = some (.int .i64 (wd : Int)) := (blk_cell HI.out.s.box 0).trans rfl
              have x1 : wq3.cell? ⟨gx, 1, none⟩ = some (.slice (some ⟨ga, 0, none⟩) n n) := (blk_cell HI.out.s.box 1).trans rfl
              have c0 : wq3.cell? ⟨ga, p, none⟩ = some (.int .i64 y0) := by rw [HP.out.1, HP.out.2.2]; exact (HI.out.at HW.out.1 HW.out.2 hi hj).2
              have c1 : wq3.cell? ⟨ga, p1, none⟩ = some (.int .i64 y1) := by rw [HP1.out.1, HP1.out.2]; exact (HI.out.at HW.out.1 HW.out.2 hia hj).2
              go_wp2
              go_quiet (fail)
              have n_ := Aside0.mk (HI.out.drewN nq)
              clear HI x0 x1 c0 c1
              have HI := n_
              clear n_
              generalize wq3.drewN nq = wq4 at HI ⊢
              have x0 : wq4.cell? ⟨gx, 0, none⟩ = some (.int .i64 (wd : Int)) := (blk_cell HI.out.s.box 0).trans rfl
              have x1 : wq4.cell? ⟨gx, 1, none⟩ = some (.slice (some ⟨ga, 0, none⟩) n n) := (blk_cell HI.out.s.box 1).trans rfl
              have c0 : wq4.cell? ⟨ga, p, none⟩ = some (.int .i64 y0) := by rw [HP.out.1, HP.out.2.2]; exact (HI.out.at HW.out.1 HW.out.2 hi hj).2
              have c1 : wq4.cell? ⟨ga, p1, none⟩ = some (.int .i64 y1) := by rw [HP1.out.1, HP1.out.2]; exact (HI.out.at HW.out.1 HW.out.2 hia hj).2
              go_wp2
              go_quiet (fail)
              have n_ := Aside0.mk (HI.out.drewN nq)
              clear HI x0 x1 c0 c1
              have HI := n_
              clear n_
              generalize wq4.drewN nq = wq5 at HI ⊢
              have x0 : wq5.cell? ⟨gx, 0, none⟩ = some (.int .i64 (wd : Int)) := (blk_cell HI.out.s.box 0).trans rfl
              have x1 : wq5.cell? ⟨gx, 1, none⟩ = some (.slice (some ⟨ga, 0, none⟩) n n) := (blk_cell HI.out.s.box 1).trans rfl
              have c0 : wq5.cell? ⟨ga, p, none⟩ = some (.int .i64 y0) := by rw [HP.out.1, HP.out.2.2]; exact (HI.out.at HW.out.1 HW.out.2 hi hj).2
              have c1 : wq5.cell? ⟨ga, p1, none⟩ = some (.int .i64 y1) := by rw [HP1.out.1, HP1.out.2]; exact (HI.out.at HW.out.1 HW.out.2 hia hj).2
              go_wp2_with (at_builtin; refine Kd.R_append k38 (w0 := w) w.heap.size rfl (.tmp 119) (.tmp 127) 33 38 (.agg #[(.int .i64 0), (.int .i64 0), (.int .u8 0), (.int .i64 0), (.int .i64 0)]) 40 rfl Try.underlying33 info38h rfl (by decide) (by omega) _ ops (⟨2, (j : Int), 0, c, f + (ops.length : Int)⟩ : S38) [.int .i64 2, .int .i64 (j : Int), .int .u8 0, .int .i64 c, .int .i64 (f + (ops.length : Int))] (fun _ => True) (fun _ => False) rfl rfl ?aP (fun _ hk => hk.elim) ?aF HI.out.row HI.out.s.below HI.out.s.below.size ?aL ?_; (case aP => exact k38_mkM _ _ _ (⟨2, (j : Int), 0, c, f + (ops.length : Int)⟩ : S38)); (case aF => exact (fun _ _ => trivial)); (case aL => omega); intro v1 w5 ho hb5 hg5 hat; have n_ := Aside0.mk (HI.out.append ho hb5 hg5); clear x0 x1 c0 HI ho hb5 hg5 hat; have HI := n_; clear n_)
              go_roundw
              case rel => exact ⟨i + 1, j, ops ++ [(⟨2, (j : Int), 0, c, f + (ops.length : Int)⟩ : S38)], s, by omega, by omega, rfl, by go_num, by go_num, by go_num, HO2, HK2, HI⟩
              case measure => simp [intOf]; omega
            · have ht1 : (y1 == y0 - 1) = false := by simpa using ht
              have HO2 : Aside0 ((ops ++ [(⟨1, (j : Int), cb, c, f + (ops.length : Int)⟩ : S38)]) ++ opsI c f a b i (j + 1) (ops ++ [(⟨1, (j : Int), cb, c, f + (ops.length : Int)⟩ : S38)]).length = opsI c f a b 0 0 0 ∧ (ops ++ [(⟨1, (j : Int), cb, c, f + (ops.length : Int)⟩ : S38)]).length ≤ i + (j + 1)) := ⟨by
                have h1 := HS.out.1
                rw [HOS.out, if_neg (fun e => hq (HQ.out.2 e)), if_neg (fun e => ht (HT.out.2 e)), HCB.out] at h1
                rw [List.append_assoc, List.length_append]
                exact ⟨h1, by have := HS.out.2; simp; omega⟩⟩
              have HK2 : Aside0 (bytesOf s ++ keptI a b i (j + 1) = keptI a b 0 0 ∧ s.size ≤ i) := ⟨by
                have h1 := HK.out.1
                rw [HKS.out, if_neg (fun e => hq (HQ.out.2 e)), if_neg (fun e => ht (HT.out.2 e))] at h1
                exact ⟨h1, by have := HK.out.2; omega⟩⟩
              clear hq ht
              go_wp2
              go_quiet (fail)
              have n_ := Aside0.mk (HI.out.drewN nq)
              clear HI x0 x1 c0 c1
              have HI := n_
              clear n_
              generalize wr.drewN nq = wq6 at HI ⊢
              have x0 : wq6.cell? ⟨gx, 0, none⟩ = some (.int .i64 (wd : Int)) := (blk_cell HI.out.s.box 0).trans rfl
              have x1 : wq6.cell? ⟨gx, 1, none⟩ = some (.slice (some ⟨ga, 0, none⟩) n n) := (blk_cell HI.out.s.box 1).trans rfl
              have c0 : wq6.cell? ⟨ga, p, none⟩ = some (.int .i64 y0) := by rw [HP.out.1, HP.out.2.2]; exact (HI.out.at HW.out.1 HW.out.2 hi hj).2
              have c1 : wq6.cell? ⟨ga, p1, none⟩ = some (.int .i64 y1) := by rw [HP1.out.1, HP1.out.2]; exact (HI.out.at HW.out.1 HW.out.2 hia hj).2
              go_wp2
              go_quiet (fail)
              have n_ := Aside0.mk (HI.out.drewN nq)
              clear HI x0 x1 c0 c1
              have HI := n_
              clear n_
              generalize wq6.drewN nq = wq7 at HI ⊢
              have x0 : wq7.cell? ⟨gx, 0, none⟩ = some (.int .i64 (wd : Int)) := (blk_cell HI.out.s.box 0).trans rfl
              have x1 : wq7.cell? ⟨gx, 1, none⟩ = some (.slice (some ⟨ga, 0, none⟩) n n) := (blk_cell HI.out.s.box 1).trans rfl
              have c0 : wq7.cell? ⟨ga, p, none⟩ = some (.int .i64 y0) := by rw [HP.out.1, HP.out.2.2]; exact (HI.out.at HW.out.1 HW.out.2 hi hj).2
              have c1 : wq7.cell? ⟨ga, p1, none⟩ = some (.int .i64 y1) := by rw [HP1.out.1, HP1.out.2]; exact (HI.out.at HW.out.1 HW.out.2 hia hj).2
              go_wp2
              go_quiet (fail)
              have n_ := Aside0.mk (HI.out.drewN nq)
              clear HI x0 x1 c0 c1
              have HI := n_
              clear n_
              generalize wq7.drewN nq = wq8 at HI ⊢
              have x0 : wq8.cell? ⟨gx, 0, none⟩ = some (.int .i64 (wd : Int)) := (blk_cell HI.out.s.box 0).trans rfl
              have x1 : wq8.cell? ⟨gx, 1, none⟩ = some (.slice (some ⟨ga, 0, none⟩) n n) := (blk_cell HI.out.s.box 1).trans rfl
              have c0 : wq8.cell? ⟨ga, p, none⟩ = some (.int .i64 y0) := by rw [HP.out.1, HP.out.2.2]; exact (HI.out.at HW.out.1 HW.out.2 hi hj).2
              have c1 : wq8.cell? ⟨ga, p1, none⟩ = some (.int .i64 y1) := by rw [HP1.out.1, HP1.out.2]; exact (HI.out.at HW.out.1 HW.out.2 hia hj).2
              go_wp2_with (at_builtin; refine Kd.R_append k38 (w0 := w) w.heap.size rfl (.tmp 44) (.tmp 55) 33 38 (.agg #[(.int .i64 0), (.int .i64 0), (.int .u8 0), (.int .i64 0), (.int .i64 0)]) 40 rfl Try.underlying33 info38h rfl (by decide) (by omega) _ ops (⟨1, (j : Int), cb, c, f + (ops.length : Int)⟩ : S38) [.int .i64 1, .int .i64 (j : Int), .int .u8 cb, .int .i64 c, .int .i64 (f + (ops.length : Int))] (fun _ => True) (fun _ => False) rfl rfl ?aP (fun _ hk => hk.elim) ?aF HI.out.row HI.out.s.below HI.out.s.below.size ?aL ?_; (case aP => exact k38_mkM _ _ _ (⟨1, (j : Int), cb, c, f + (ops.length : Int)⟩ : S38)); (case aF => exact (fun _ _ => trivial)); (case aL => omega); intro v1 w5 ho hb5 hg5 hat; have n_ := Aside0.mk (HI.out.append ho hb5 hg5); clear x0 x1 c0 HI ho hb5 hg5 hat; have HI := n_; clear n_)
              go_roundw
              case rel => exact ⟨i, j + 1, ops ++ [(⟨1, (j : Int), cb, c, f + (ops.length : Int)⟩ : S38)], s, by omega, by omega, rfl, by go_num, by go_num, by go_num, HO2, HK2, HI⟩
              case measure => simp [intOf]; omega
        · have uj : decide (j < b.size) = false := decide_eq_false hjb
          have HJ := Aside0.mk hjb
          have ht : y1 = y0 - 1 := HT.out.2 (by rw [TT_end2 a b (i + 1) (by omega), TT_end2 a b i (by omega)])
          have ht1 : (y1 == y0 - 1) = true := by rw [ht]; exact beq_self_eq_true _
          have HO2 : Aside0 ((ops ++ [(⟨2, (j : Int), 0, c, f + (ops.length : Int)⟩ : S38)]) ++ opsI c f a b (i + 1) j (ops ++ [(⟨2, (j : Int), 0, c, f + (ops.length : Int)⟩ : S38)]).length = opsI c f a b 0 0 0 ∧ (ops ++ [(⟨2, (j : Int), 0, c, f + (ops.length : Int)⟩ : S38)]).length ≤ (i + 1) + j) := ⟨by
            have h1 := HS.out.1
            rw [opsI_end2 c f a b hia (by omega)] at h1
            rw [List.append_assoc, List.length_append]
            exact ⟨h1, by have := HS.out.2; simp; omega⟩⟩
          have HK2 : Aside0 (bytesOf s ++ keptI a b (i + 1) j = keptI a b 0 0 ∧ s.size ≤ i + 1) := ⟨by
            have h1 := HK.out.1
            rw [keptI_end2 a b i j (by omega)] at h1
            rw [keptI_end2 a b (i + 1) j (by omega)]
            exact ⟨h1, by have := HK.out.2; omega⟩⟩
          clear ht
          go_wp2
          go_quiet (fail)
          have n_ := Aside0.mk (HI.out.drewN nq)
          clear HI x0 x1 c0 c1
          have HI := n_
          clear n_
          generalize wr.drewN nq = wq9 at HI ⊢
          have x0 : wq9.cell? ⟨gx, 0, none⟩ = some (.int .i64 (wd : Int)) := (blk_cell HI.out.s.box 0).trans rfl
          have x1 : wq9.cell? ⟨gx, 1, none⟩ = some (.slice (some ⟨ga, 0, none⟩) n n) := (blk_cell HI.out.s.box 1).trans rfl
          have c0 : wq9.cell? ⟨ga, p, none⟩ = some (.int .i64 y0) := by rw [HP.out.1, HP.out.2.2]; exact (HI.out.at HW.out.1 HW.out.2 hi hj).2
          have c1 : wq9.cell? ⟨ga, p1, none⟩ = some (.int .i64 y1) := by rw [HP1.out.1, HP1.out.2]; exact (HI.out.at HW.out.1 HW.out.2 hia hj).2
          go_wp2
          go_quiet (fail)
          have n_ := Aside0.mk (HI.out.drewN nq)
          clear HI x0 x1 c0 c1
          have HI := n_
          clear n_
          generalize wq9.drewN nq = wq10 at HI ⊢
          have x0 : wq10.cell? ⟨gx, 0, none⟩ = some (.int .i64 (wd : Int)) := (blk_cell HI.out.s.box 0).trans rfl
          have x1 : wq10.cell? ⟨gx, 1, none⟩ = some (.slice (some ⟨ga, 0, none⟩) n n) := (blk_cell HI.out.s.box 1).trans rfl
          have c0 : wq10.cell? ⟨ga, p, none⟩ = some (.int .i64 y0) := by rw [HP.out.1, HP.out.2.2]; exact (HI.out.at HW.out.1 HW.out.2 hi hj).2
          have c1 : wq10.cell? ⟨ga, p1, none⟩ = some (.int .i64 y1) := by rw [HP1.out.1, HP1.out.2]; exact (HI.out.at HW.out.1 HW.out.2 hia hj).2
          go_wp2
          go_quiet (fail)
          have n_ := Aside0.mk (HI.out.drewN nq)
          clear HI x0 x1 c0 c1
          have HI := n_
          clear n_
          generalize wq10.drewN nq = wq11 at HI ⊢
          have x0 : wq11.cell? ⟨gx, 0, none⟩ = some (.int .i64 (wd : Int)) := (blk_cell HI.out.s.box 0).trans rfl
          have x1 : wq11.cell? ⟨gx, 1, none⟩ = some (.slice (some ⟨ga, 0, none⟩) n n) := (blk_cell HI.out.s.box 1).trans rfl
          have c0 : wq11.cell? ⟨ga, p, none⟩ = some (.int .i64 y0) := by rw [HP.out.1, HP.out.2.2]; exact (HI.out.at HW.out.1 HW.out.2 hi hj).2
          have c1 : wq11.cell? ⟨ga, p1, none⟩ = some (.int .i64 y1) := by rw [HP1.out.1, HP1.out.2]; exact (HI.out.at HW.out.1 HW.out.2 hia hj).2
          go_wp2_with (at_builtin; refine Kd.R_append k38 (w0 := w) w.heap.size rfl (.tmp 119) (.tmp 127) 33 38 (.agg #[(.int .i64 0), (.int .i64 0), (.int .u8 0), (.int .i64 0), (.int .i64 0)]) 40 rfl Try.underlying33 info38h rfl (by decide) (by omega) _ ops (⟨2, (j : Int), 0, c, f + (ops.length : Int)⟩ : S38) [.int .i64 2, .int .i64 (j : Int), .int .u8 0, .int .i64 c, .int .i64 (f + (ops.length : Int))] (fun _ => True) (fun _ => False) rfl rfl ?aP (fun _ hk => hk.elim) ?aF HI.out.row HI.out.s.below HI.out.s.below.size ?aL ?_; (case aP => exact k38_mkM _ _ _ (⟨2, (j : Int), 0, c, f + (ops.length : Int)⟩ : S38)); (case aF => exact (fun _ _ => trivial)); (case aL => omega); intro v1 w5 ho hb5 hg5 hat; have n_ := Aside0.mk (HI.out.append ho hb5 hg5); clear x0 x1 c0 HI ho hb5 hg5 hat; have HI := n_; clear n_)
          go_roundw
          case rel => exact ⟨i + 1, j, ops ++ [(⟨2, (j : Int), 0, c, f + (ops.length : Int)⟩ : S38)], s, by omega, by omega, rfl, by go_num, by go_num, by go_num, HO2, HK2, HI⟩
          case measure => simp [intOf]; omega
      · have hjb : j < b.size := by omega
        have ui : decide (i < a.size) = false := decide_eq_false hia
        have uj : decide (j < b.size) = true := decide_eq_true hjb
        have b6 : (0 : Int) ≤ (j : Int) ∧ (j : Int) < (b.size : Int) := by omega
        have HCB := Aside0.mk (hcb hjb)
        have HO2 : Aside0 ((ops ++ [(⟨1, (j : Int), cb, c, f + (ops.length : Int)⟩ : S38)]) ++ opsI c f a b i (j + 1) (ops ++ [(⟨1, (j : Int), cb, c, f + (ops.length : Int)⟩ : S38)]).length = opsI c f a b 0 0 0 ∧ (ops ++ [(⟨1, (j : Int), cb, c, f + (ops.length : Int)⟩ : S38)]).length ≤ i + (j + 1)) := ⟨by
          have h1 := HS.out.1
          rw [opsI_end1 c f a b (by omega) hjb, HCB.out] at h1
          rw [List.append_assoc, List.length_append]
          exact ⟨h1, by have := HS.out.2; simp; omega⟩⟩
        have HK2 : Aside0 (bytesOf s ++ keptI a b i (j + 1) = keptI a b 0 0 ∧ s.size ≤ i) := ⟨by
          have h1 := HK.out.1
          rw [keptI_end1 a b i j (by omega)] at h1
          rw [keptI_end1 a b i (j + 1) (by omega)]
          exact ⟨h1, by have := HK.out.2; omega⟩⟩
        go_wp2
        go_quiet (fail)
        have n_ := Aside0.mk (HI.out.drewN nq)
        clear HI x0 x1 c0
        have HI := n_
        clear n_
        generalize wr.drewN nq = wq12 at HI ⊢
        have x0 : wq12.cell? ⟨gx, 0, none⟩ = some (.int .i64 (wd : Int)) := (blk_cell HI.out.s.box 0).trans rfl
        have x1 : wq12.cell? ⟨gx, 1, none⟩ = some (.slice (some ⟨ga, 0, none⟩) n n) := (blk_cell HI.out.s.box 1).trans rfl
        have c0 : wq12.cell? ⟨ga, p, none⟩ = some (.int .i64 y0) := by rw [HP.out.1, HP.out.2.2]; exact (HI.out.at HW.out.1 HW.out.2 hi hj).2
        go_wp2
        go_quiet (fail)
        have n_ := Aside0.mk (HI.out.drewN nq)
        clear HI x0 x1 c0
        have HI := n_
        clear n_
        generalize wq12.drewN nq = wq13 at HI ⊢
        have x0 : wq13.cell? ⟨gx, 0, none⟩ = some (.int .i64 (wd : Int)) := (blk_cell HI.out.s.box 0).trans rfl
        have x1 : wq13.cell? ⟨gx, 1, none⟩ = some (.slice (some ⟨ga, 0, none⟩) n n) := (blk_cell HI.out.s.box 1).trans rfl
        have c0 : wq13.cell? ⟨ga, p, none⟩ = some (.int .i64 y0) := by rw [HP.out.1, HP.out.2.2]; exact (HI.out.at HW.out.1 HW.out.2 hi hj).2
        go_wp2
        go_quiet (fail)
        have n_ := Aside0.mk (HI.out.drewN nq)
        clear HI x0 x1 c0
        have HI := n_
        clear n_
        generalize wq13.drewN nq = wq14 at HI ⊢
        have x0 : wq14.cell? ⟨gx, 0, none⟩ = some (.int .i64 (wd : Int)) := (blk_cell HI.out.s.box 0).trans rfl
        have x1 : wq14.cell? ⟨gx, 1, none⟩ = some (.slice (some ⟨ga, 0, none⟩) n n) := (blk_cell HI.out.s.box 1).trans rfl
        have c0 : wq14.cell? ⟨ga, p, none⟩ = some (.int .i64 y0) := by rw [HP.out.1, HP.out.2.2]; exact (HI.out.at HW.out.1 HW.out.2 hi hj).2
        go_wp2_with (at_builtin; refine Kd.R_append k38 (w0 := w) w.heap.size rfl (.tmp 44) (.tmp 55) 33 38 (.agg #[(.int .i64 0), (.int .i64 0), (.int .u8 0), (.int .i64 0), (.int .i64 0)]) 40 rfl Try.underlying33 info38h rfl (by decide) (by omega) _ ops (⟨1, (j : Int), cb, c, f + (ops.length : Int)⟩ : S38) [.int .i64 1, .int .i64 (j : Int), .int .u8 cb, .int .i64 c, .int .i64 (f + (ops.length : Int))] (fun _ => True) (fun _ => False) rfl rfl ?aP (fun _ hk => hk.elim) ?aF HI.out.row HI.out.s.below HI.out.s.below.size ?aL ?_; (case aP => exact k38_mkM _ _ _ (⟨1, (j : Int), cb, c, f + (ops.length : Int)⟩ : S38)); (case aF => exact (fun _ _ => trivial)); (case aL => omega); intro v1 w5 ho hb5 hg5 hat; have n_ := Aside0.mk (HI.out.append ho hb5 hg5); clear x0 x1 c0 HI ho hb5 hg5 hat; have HI := n_; clear n_)
        go_roundw
        case rel => exact ⟨i, j + 1, ops ++ [(⟨1, (j : Int), cb, c, f + (ops.length : Int)⟩ : S38)], s, by omega, by omega, rfl, by go_num, by go_num, by go_num, HO2, HK2, HI⟩
        case measure => simp [intOf]; omega
theorem rwalk_calls (a b : ByteArray) (c f : Int) (w : World) (ha : a.size ≤ 512) (hb : b.size ≤ 512) (hf : 0 ≤ f ∧ f ≤ 1000) :
    Calls Try.prog 40 #[.string a, .string b, .int .i64 c, .int .i64 f] w fun ex w' => ∃ v : Value, ex = .returned (.tuple #[v, .string (keptT a b)]) ∧ k38.R 38 w' w.heap.size (fun _ => True) v (opsI c f a b 0 0 0) ∧ Below w.heap.size w w' :=
  rwalk_calls0 a b c f w _ _ rfl rfl ha hb hf
end Go.Proofs.Ytjnciljimacblaa.Q
/- The reference's answers: plain, check, Between, Distance, Common: the walks. Condition of Between: the first number is one of Go's int. -/
namespace Go.Proofs.Ytjnciljimacblaa.Q
open Go.RowKit Go.Proofs.YtjnciljimacblaaW.PrintWords Go.Proofs.YtjnciljimacblaaW.PrintLast Go.Proofs.YtjnciljimacblaaW.PrintMore
set_option linter.unusedVariables false
set_option linter.unusedSimpArgs false
set_option maxRecDepth 100000
theorem all_bad {s : ByteArray} {i : Nat} (h : i < s.size) (hb : okByte (s[i]'h) = false) : s.data.toList.all okByte = false := by
  have h1 := plainE_bad h hb
  unfold plainE at h1
  by_cases e : s.data.toList.all okByte = true
  · rw [if_pos e] at h1; cases h1
  · simpa using e
theorem all_end {s : ByteArray} (h : (s.data.toList.take s.size).all okByte = true) : s.data.toList.all okByte = true := by
  have e : s.data.toList.take s.size = s.data.toList := List.take_of_length_le (Nat.le_of_eq rfl)
  rwa [e] at h
set_option maxHeartbeats 4000000 in
theorem rplain_calls (s : ByteArray) (hs : s.size ≤ 512) (w : World) : Calls Try.prog 44 #[.string s] w fun e w' => e = .returned (.bool (s.data.toList.all okByte)) ∧ w' = w := by
  go_enter Try.func44, Try.ntmps44
  go_wp2
  go_loopw [3] (fun v3 wr => ∃ i : Nat, i ≤ s.size ∧ v3 = .int .i64 (i : Int) ∧ wr = w ∧ Aside0 ((s.data.toList.take i).all okByte = true)) (fun v3 _ => s.size - (intOf v3).toNat)
  case atStart => exact ⟨0, Nat.zero_le _, rfl, rfl, ⟨by simp⟩⟩
  case round =>
    obtain ⟨i, hi, rfl, rfl, HP⟩ := hrel
    by_cases hlt : i < s.size
    · have ui : decide (i < s.size) = true := decide_eq_true hlt
      have b5 : (0 : Int) ≤ (i : Int) ∧ (i : Int) < (s.size : Int) := by omega
      have q1 : IntKind.i64.wrap ((i : Int) + 1) = (i : Int) + 1 := wrap_small _ (by omega) (by omega)
      obtain ⟨c, hc⟩ : ∃ c : Nat, ∀ h : i < s.size, (s[i]'h).toNat = c := ⟨(s[i]'hlt).toNat, fun _ => rfl⟩
      by_cases hb : okByte (s[i]'hlt) = true
      · have HP2 := Aside0.mk (plain_push hlt hb HP.out)
        have hb2 : 32 ≤ (s[i]'hlt).toNat ∧ (s[i]'hlt).toNat ≤ 126 := by simpa [okByte] using hb
        rw [hc hlt] at hb2
        have t1 : decide ((c : Int) < 32) = false := decide_eq_false (by omega)
        have t2 : decide ((c : Int) > 126) = false := decide_eq_false (by omega)
        have t3 : decide ((126 : Int) < c) = false := decide_eq_false (by omega)
        clear HP hb
        go_wp2
        go_roundw
        case rel => exact ⟨i + 1, by omega, by go_num, by simp, HP2⟩
        case measure => simp [intOf]; omega
      · have hb : okByte (s[i]'hlt) = false := by simpa using hb
        have HE := Aside0.mk (all_bad hlt hb)
        have hb2 : ¬ (32 ≤ (s[i]'hlt).toNat ∧ (s[i]'hlt).toNat ≤ 126) := by simpa [okByte] using hb
        rw [hc hlt] at hb2
        clear HP hb
        by_cases h1 : c < 32
        · have t1 : decide ((c : Int) < 32) = true := decide_eq_true (by omega)
          go_wp2
          go_ret
          exact ⟨by rw [HE.out]; rfl, rfl⟩
        · have t1 : decide ((c : Int) < 32) = false := decide_eq_false (by omega)
          have t2 : decide ((c : Int) > 126) = true := decide_eq_true (by omega)
          have t3 : decide ((126 : Int) < c) = true := decide_eq_true (by omega)
          go_wp2
          go_ret
          exact ⟨by rw [HE.out]; rfl, rfl⟩
    · obtain rfl : i = s.size := by omega
      have ui : decide (s.size < s.size) = false := decide_eq_false (Nat.lt_irrefl _)
      have HE := Aside0.mk (all_end HP.out)
      clear HP
      go_wp2
      go_ret
      exact ⟨by rw [HE.out]; rfl, rfl⟩
theorem checkE_eq (a b : ByteArray) : checkE a b = if a.size > 512 ∨ b.size > 512 then 170 else if s1 : a.data.toList.all okByte = true ∧ b.data.toList.all okByte = true then 0 else 171 := by
  unfold checkE plainE
  by_cases h : a.size > 512 ∨ b.size > 512
  · rw [if_pos h, if_pos (by split <;> omega)]
  · rw [if_neg h, if_neg (by split <;> omega)]
    by_cases h1 : a.data.toList.all okByte = true
    · by_cases h2 : b.data.toList.all okByte = true
      · rw [if_pos h1, if_pos h2, dif_pos ⟨h1, h2⟩]; rfl
      · rw [if_pos h1, if_neg h2, dif_neg (fun e => h2 e.2)]; rfl
    · by_cases h2 : b.data.toList.all okByte = true
      · rw [if_neg h1, if_pos h2, dif_neg (fun e => h1 e.1)]; rfl
      · rw [if_neg h1, if_neg h2, dif_neg (fun e => h1 e.1)]; rfl
set_option maxHeartbeats 4000000 in
theorem rcheck_calls (a b : ByteArray) (w : World) : Calls Try.prog 39 #[.string a, .string b] w fun e w' => e = .returned (.int .i64 (checkE a b)) ∧ w' = w := by
  have HE := Aside0.mk (checkE_eq a b)
  by_cases h1 : a.size > 512
  · have t1 : decide ((a.size : Int) > 512) = true := decide_eq_true (by omega)
    have t2 : decide (512 < a.size) = true := decide_eq_true h1
    have h1' : 512 < a.size := h1
    go_enter Try.func39, Try.ntmps39
    go_wp2
    go_ret
    exact ⟨by rw [HE.out, if_pos (.inl h1')]; rfl, rfl⟩
  · have t1 : decide ((a.size : Int) > 512) = false := decide_eq_false (by omega)
    have t2 : decide (512 < a.size) = false := decide_eq_false h1
    have h1' : ¬ 512 < a.size := h1
    by_cases h2 : b.size > 512
    · have t3 : decide ((b.size : Int) > 512) = true := decide_eq_true (by omega)
      have t4 : decide (512 < b.size) = true := decide_eq_true h2
      have h2' : 512 < b.size := h2
      go_enter Try.func39, Try.ntmps39
      go_wp2
      go_ret
      exact ⟨by rw [HE.out, if_pos (.inr h2')]; rfl, rfl⟩
    · have t3 : decide ((b.size : Int) > 512) = false := decide_eq_false (by omega)
      have t4 : decide (512 < b.size) = false := decide_eq_false h2
      have h2' : ¬ 512 < b.size := h2
      have ha : a.size ≤ 512 := by omega
      have hb : b.size ≤ 512 := by omega
      by_cases h3 : a.data.toList.all okByte = true
      · have C1 : Aside0 (∀ W, Calls Try.prog 44 #[.string a] W fun e w' => e = .returned (.bool true) ∧ w' = W) := ⟨fun W => by have := rplain_calls a ha W; rwa [h3] at this⟩
        by_cases h4 : b.data.toList.all okByte = true
        · have C2 : Aside0 (∀ W, Calls Try.prog 44 #[.string b] W fun e w' => e = .returned (.bool true) ∧ w' = W) := ⟨fun W => by have := rplain_calls b hb W; rwa [h4] at this⟩
          have HR : Aside0 (checkE a b = 0) := ⟨by rw [HE.out, if_neg (by omega), dif_pos ⟨h3, h4⟩]⟩
          clear h3 h4 HE
          go_enter Try.func39, Try.ntmps39
          go_wp2_with (go_at_call 44; first | ((with_reducible refine (C1.out _).mono ?_); rintro e w1 ⟨rfl, rfl⟩) | ((with_reducible refine (C2.out _).mono ?_); rintro e w1 ⟨rfl, rfl⟩))
          go_ret
          exact ⟨by rw [HR.out]; rfl, rfl⟩
        · have h4 : b.data.toList.all okByte = false := by simpa using h4
          have C2 : Aside0 (∀ W, Calls Try.prog 44 #[.string b] W fun e w' => e = .returned (.bool false) ∧ w' = W) := ⟨fun W => by have := rplain_calls b hb W; rwa [h4] at this⟩
          have HR : Aside0 (checkE a b = 171) := ⟨by rw [HE.out, if_neg (by omega), dif_neg (fun e => by rw [h4] at e; cases e.2)]⟩
          clear h3 h4 HE
          go_enter Try.func39, Try.ntmps39
          go_wp2_with (go_at_call 44; first | ((with_reducible refine (C1.out _).mono ?_); rintro e w1 ⟨rfl, rfl⟩) | ((with_reducible refine (C2.out _).mono ?_); rintro e w1 ⟨rfl, rfl⟩))
          go_ret
          exact ⟨by rw [HR.out]; rfl, rfl⟩
      · have h3 : a.data.toList.all okByte = false := by simpa using h3
        have C1 : Aside0 (∀ W, Calls Try.prog 44 #[.string a] W fun e w' => e = .returned (.bool false) ∧ w' = W) := ⟨fun W => by have := rplain_calls a ha W; rwa [h3] at this⟩
        have HR : Aside0 (checkE a b = 171) := ⟨by rw [HE.out, if_neg (by omega), dif_neg (fun e => by rw [h3] at e; cases e.1)]⟩
        clear h3 HE
        go_enter Try.func39, Try.ntmps39
        go_wp2_with (go_at_call 44; refine (C1.out _).mono ?_; rintro e w1 ⟨rfl, rfl⟩)
        go_ret
        exact ⟨by rw [HR.out]; rfl, rfl⟩
theorem dist_eq (a b : ByteArray) : (dd a b 0 0 : Int) = distS a b := by
  have h := tt_le a b 0 0
  have e : TT a b 0 0 = (tt a b 0 0 : Int) := rfl
  unfold distS
  rw [e]
  unfold dd
  omega
set_option maxHeartbeats 4000000 in
theorem rdist_calls (a0 a1 : ByteArray) (r1 r2 : Int) (w : World) (h : diff_Distance.f a0 a1 = some (r1, r2)) :
    Calls Try.prog 20 #[.string a0, .string a1] w fun e w' => e = .returned (.tuple #[.int .i64 r1, .int .i64 r2]) ∧ Below w.heap.size w w' := by
  unfold diff_Distance.f at h
  have HB := Aside0.mk (Below.refl w.heap.size w)
  by_cases hE : checkE a0 a1 = 0
  · rw [if_pos hE] at h
    have h := Option.some.inj h
    obtain ⟨rfl, rfl⟩ : distS a0 a1 = r1 ∧ (0 : Int) = r2 := ⟨congrArg Prod.fst h, congrArg Prod.snd h⟩
    clear h
    obtain ⟨ha, hb⟩ := check_short hE
    have CK : Aside0 (∀ W, Calls Try.prog 39 #[.string a0, .string a1] W fun e w' => e = .returned (.int .i64 0) ∧ w' = W) := ⟨fun W => by have := rcheck_calls a0 a1 W; rwa [hE] at this⟩
    clear hE
    obtain ⟨n, hn⟩ : ∃ n, n = (a0.size + 1) * (a1.size + 1) := ⟨_, rfl⟩
    have hn0 : 0 < n := by rw [hn]; exact Nat.mul_pos (by omega) (by omega)
    have hd := dd_le a0 a1 0 0
    obtain ⟨x, hx⟩ : ∃ x : Int, x = (dd a0 a1 0 0 : Int) + 1 := ⟨_, rfl⟩
    have HX : Aside0 (x = (dd a0 a1 0 0 : Int) + 1 ∧ distS a0 a1 = x - 1) := ⟨⟨hx, by rw [← dist_eq]; omega⟩⟩
    have q1 : IntKind.i64.wrap (x - 1) = x - 1 := wrap_small _ (by omega) (by omega)
    have b1 : (0 : Int) ≤ 0 ∧ (0 : Int) < (n : Int) := by omega
    have HN := Aside0.mk hn
    clear hx hd hn
    go_enter Try.func20, Try.ntmps20
    go_wp2_with (first
      | (go_at_call 39; (with_reducible refine (CK.out _).mono ?_); rintro e w1 ⟨rfl, rfl⟩)
      | (go_at_call 41; refine (search_calls0 a0 a1 _ _ n rfl HN.out ha hb).mono ?_; rintro e w2 ⟨gx, ga, rfl, hs⟩; have x1 : w2.cell? ⟨gx, 1, none⟩ = some (.slice (some ⟨ga, 0, none⟩) n n) := (blk_cell hs.box 1).trans rfl; have c0 : w2.cell? ⟨ga, 0, none⟩ = some (.int .i64 x) := (by rw [hs.tab.cell hn0, Nat.zero_div, Nat.zero_mod, HX.out.1]); have n_ := Aside0.mk hs.below; clear HB hs; have HB := n_; clear n_))
    go_ret2
    exact ⟨by rw [HX.out.2]; rfl, HB.out⟩
  · rw [if_neg hE] at h
    have h := Option.some.inj h
    obtain ⟨rfl, hr2⟩ : (0 : Int) = r1 ∧ checkE a0 a1 = r2 := ⟨congrArg Prod.fst h, congrArg Prod.snd h⟩
    have CK : Aside0 (∀ W, Calls Try.prog 39 #[.string a0, .string a1] W fun e w' => e = .returned (.int .i64 r2) ∧ w' = W) := ⟨fun W => by have := rcheck_calls a0 a1 W; rwa [hr2] at this⟩
    have t2 : (r2 == 0) = false := by rw [← hr2]; simpa using hE
    have t3 : (r2 != 0) = true := by rw [← hr2]; simpa using hE
    clear h hE hr2
    go_enter Try.func20, Try.ntmps20
    go_wp2_with (go_at_call 39; (with_reducible refine (CK.out _).mono ?_); rintro e w1 ⟨rfl, rfl⟩)
    go_ret2
    exact ⟨rfl, HB.out⟩
set_option maxHeartbeats 4000000 in
theorem rcommon_calls (a0 a1 : ByteArray) (r1 : ByteArray) (r2 : Int) (w : World) (h : diff_Common.f a0 a1 = some (r1, r2)) :
    Calls Try.prog 21 #[.string a0, .string a1] w fun e w' => e = .returned (.tuple #[.string r1, .int .i64 r2]) ∧ Below w.heap.size w w' := by
  unfold diff_Common.f at h
  have HB := Aside0.mk (Below.refl w.heap.size w)
  by_cases hE : checkE a0 a1 = 0
  · rw [if_pos hE] at h
    have h := Option.some.inj h
    obtain ⟨rfl, rfl⟩ : keptT a0 a1 = r1 ∧ (0 : Int) = r2 := ⟨congrArg Prod.fst h, congrArg Prod.snd h⟩
    clear h
    obtain ⟨ha, hb⟩ := check_short hE
    have CK : Aside0 (∀ W, Calls Try.prog 39 #[.string a0, .string a1] W fun e w' => e = .returned (.int .i64 0) ∧ w' = W) := ⟨fun W => by have := rcheck_calls a0 a1 W; rwa [hE] at this⟩
    clear hE
    go_enter Try.func21, Try.ntmps21
    go_wp2_with (first
      | (go_at_call 39; (with_reducible refine (CK.out _).mono ?_); rintro e w1 ⟨rfl, rfl⟩)
      | (go_at_call 40; refine (rwalk_calls a0 a1 1 1 _ ha hb (by omega)).mono ?_; rintro e w2 ⟨v, rfl, hr, hbl⟩; have n_ := Aside0.mk hbl; clear HB hr hbl; have HB := n_; clear n_))
    go_ret2
    exact ⟨rfl, HB.out⟩
  · rw [if_neg hE] at h
    have h := Option.some.inj h
    obtain ⟨rfl, hr2⟩ : (⟨#[]⟩ : ByteArray) = r1 ∧ checkE a0 a1 = r2 := ⟨congrArg Prod.fst h, congrArg Prod.snd h⟩
    have CK : Aside0 (∀ W, Calls Try.prog 39 #[.string a0, .string a1] W fun e w' => e = .returned (.int .i64 r2) ∧ w' = W) := ⟨fun W => by have := rcheck_calls a0 a1 W; rwa [hr2] at this⟩
    have t2 : (r2 == 0) = false := by rw [← hr2]; simpa using hE
    have t3 : (r2 != 0) = true := by rw [← hr2]; simpa using hE
    clear h hE hr2
    go_enter Try.func21, Try.ntmps21
    go_wp2_with (go_at_call 39; (with_reducible refine (CK.out _).mono ?_); rintro e w1 ⟨rfl, rfl⟩)
    go_ret2
    exact ⟨rfl, HB.out⟩
theorem opsI_len (c f : Int) (a b : ByteArray) : ((opsI c f a b 0 0 0).length : Int) = distS a b := by
  have h := Go.Proofs.Ytjnciljimacblaa.P.ops_length c f (a.data.toList.length + b.data.toList.length) (a.data.toList) (b.data.toList) 0 0 (Nat.le_refl _)
  have h1 := TT_le a b
  have e : TT a b 0 0 = (JotDiff.lcs a.data.toList b.data.toList : Nat) := rfl
  have e2 : opsI c f a b 0 0 0 = opsL c f a.data.toList b.data.toList 0 0 := rfl
  rw [e2]
  rw [data_length, data_length] at h
  unfold distS
  rw [e]
  omega
set_option maxHeartbeats 4000000 in
theorem rbetween_calls (a0 a1 : ByteArray) (a2 a3 : Int) (r1 : List S38) (r2 : Int) (w : World) (h : diff_Between.f a0 a1 a2 a3 = some (r1, r2)) :
    Calls Try.prog 19 #[.string a0, .string a1, .int .i64 a2, .int .i64 a3] w fun e w' => ∃ v0_ : Value, e = .returned (.tuple #[v0_, .int .i64 r2]) ∧ Kd.R k38 38 w' w.heap.size (fun _ => True) v0_ r1 ∧ Below w.heap.size w w' := by
  unfold diff_Between.f at h
  by_cases h3 : a3 ≤ 9223372036854775807
  case neg => rw [if_neg h3] at h; cases h
  rw [if_pos h3] at h
  have h := Option.some.inj h
  unfold betweenS at h
  have HB := Aside0.mk (Below.refl w.heap.size w)
  by_cases hE : checkE a0 a1 = 0
  case neg =>
    rw [if_pos hE] at h
    obtain ⟨rfl, hr2⟩ : ([] : List S38) = r1 ∧ checkE a0 a1 = r2 := ⟨congrArg Prod.fst h, congrArg Prod.snd h⟩
    have CK : Aside0 (∀ W, Calls Try.prog 39 #[.string a0, .string a1] W fun e w' => e = .returned (.int .i64 r2) ∧ w' = W) := ⟨fun W => by have := rcheck_calls a0 a1 W; rwa [hr2] at this⟩
    have t2 : (r2 == 0) = false := by rw [← hr2]; simpa using hE
    have t3 : (r2 != 0) = true := by rw [← hr2]; simpa using hE
    clear h hE hr2 h3
    go_enter Try.func19, Try.ntmps19
    go_wp2_with (go_at_call 39; (with_reducible refine (CK.out _).mono ?_); rintro e w1 ⟨rfl, rfl⟩)
    go_ret2
    exact ⟨_, rfl, Kd.R_nil _ _ _ _ _, HB.out⟩
  rw [if_neg (by simpa using hE)] at h
  obtain ⟨ha, hb⟩ := check_short hE
  have CK : Aside0 (∀ W, Calls Try.prog 39 #[.string a0, .string a1] W fun e w' => e = .returned (.int .i64 0) ∧ w' = W) := ⟨fun W => by have := rcheck_calls a0 a1 W; rwa [hE] at this⟩
  have HD : Aside0 (0 ≤ distS a0 a1) := ⟨by rw [← opsI_len a2 a3]; omega⟩
  clear hE
  by_cases hg : a2 < 1 ∨ a2 > 64 ∨ a3 < 1
  · rw [if_pos hg] at h
    obtain ⟨rfl, rfl⟩ : ([] : List S38) = r1 ∧ (172 : Int) = r2 := ⟨congrArg Prod.fst h, congrArg Prod.snd h⟩
    clear h
    by_cases c1 : a2 < 1
    · have t1 : decide (a2 < 1) = true := decide_eq_true c1
      clear hg
      go_enter Try.func19, Try.ntmps19
      go_wp2_with (go_at_call 39; (with_reducible refine (CK.out _).mono ?_); rintro e w1 ⟨rfl, rfl⟩)
      go_ret2
      exact ⟨_, rfl, Kd.R_nil _ _ _ _ _, HB.out⟩
    · have t1 : decide (a2 < 1) = false := decide_eq_false c1
      by_cases c2 : a2 > 64
      · have t2 : decide (a2 > 64) = true := decide_eq_true c2
        have t3 : decide (64 < a2) = true := decide_eq_true c2
        clear hg
        go_enter Try.func19, Try.ntmps19
        go_wp2_with (go_at_call 39; (with_reducible refine (CK.out _).mono ?_); rintro e w1 ⟨rfl, rfl⟩)
        go_ret2
        exact ⟨_, rfl, Kd.R_nil _ _ _ _ _, HB.out⟩
      · have t2 : decide (a2 > 64) = false := decide_eq_false c2
        have t3 : decide (64 < a2) = false := decide_eq_false c2
        have c3 : a3 < 1 := by omega
        have t4 : decide (a3 < 1) = true := decide_eq_true c3
        clear hg
        go_enter Try.func19, Try.ntmps19
        go_wp2_with (go_at_call 39; (with_reducible refine (CK.out _).mono ?_); rintro e w1 ⟨rfl, rfl⟩)
        go_ret2
        exact ⟨_, rfl, Kd.R_nil _ _ _ _ _, HB.out⟩
  rw [if_neg hg] at h
  have t1 : decide (a2 < 1) = false := decide_eq_false (by omega)
  have t2 : decide (a2 > 64) = false := decide_eq_false (by omega)
  have t3 : decide (64 < a2) = false := decide_eq_false (by omega)
  have t4 : decide (a3 < 1) = false := decide_eq_false (by omega)
  have hg3 : 1 ≤ a3 := by omega
  by_cases c5 : a3 > 65
  · rw [if_pos (by have := HD.out; omega)] at h
    obtain ⟨rfl, rfl⟩ : ([] : List S38) = r1 ∧ (172 : Int) = r2 := ⟨congrArg Prod.fst h, congrArg Prod.snd h⟩
    have t5 : decide (a3 > 65) = true := decide_eq_true c5
    have t6 : decide (65 < a3) = true := decide_eq_true c5
    clear h hg
    go_enter Try.func19, Try.ntmps19
    go_wp2_with (go_at_call 39; (with_reducible refine (CK.out _).mono ?_); rintro e w1 ⟨rfl, rfl⟩)
    go_ret2
    exact ⟨_, rfl, Kd.R_nil _ _ _ _ _, HB.out⟩
  have t5 : decide (a3 > 65) = false := decide_eq_false c5
  have t6 : decide (65 < a3) = false := decide_eq_false c5
  have q1 : IntKind.i64.wrap (65 - a3) = 65 - a3 := wrap_small _ (by omega) (by omega)
  have hf : 0 ≤ a3 ∧ a3 ≤ 1000 := by omega
  have HL := Aside0.mk (opsI_len a2 a3 a0 a1)
  obtain ⟨m, hm⟩ : ∃ m : Nat, m = (opsI a2 a3 a0 a1 0 0 0).length := ⟨_, rfl⟩
  have HM := Aside0.mk hm
  rw [← HL.out, ← hm] at h
  have H := Aside0.mk h
  clear h hm hg
  by_cases c6 : (m : Int) > 65 - a3
  · have h := H.out
    rw [if_pos c6] at h
    obtain ⟨rfl, rfl⟩ : ([] : List S38) = r1 ∧ (172 : Int) = r2 := ⟨congrArg Prod.fst h, congrArg Prod.snd h⟩
    have t7 : decide ((m : Int) > 65 - a3) = true := decide_eq_true c6
    have t8 : decide (65 - a3 < (m : Int)) = true := decide_eq_true c6
    clear h
    go_enter Try.func19, Try.ntmps19
    go_wp2_with (first | (go_at_call 39; (with_reducible refine (CK.out _).mono ?_); rintro e w1 ⟨rfl, rfl⟩) | (go_at_call 40; refine (rwalk_calls a0 a1 a2 a3 _ ha hb hf).mono ?_; rintro e w2 ⟨v, rfl, hr, hbl⟩; obtain ⟨A, cp, hv⟩ := Kd.R_slice hr; rw [← HM.out] at hv; subst hv; have n_ := Aside0.mk hbl; clear HB hr hbl; have HB := n_; clear n_))
    go_ret2
    exact ⟨_, rfl, Kd.R_nil _ _ _ _ _, HB.out⟩
  · have h := H.out
    rw [if_neg c6] at h
    obtain ⟨hr1, rfl⟩ : opsI a2 a3 a0 a1 0 0 0 = r1 ∧ (0 : Int) = r2 := ⟨congrArg Prod.fst h, congrArg Prod.snd h⟩
    have HR1 := Aside0.mk hr1
    have t7 : decide ((m : Int) > 65 - a3) = false := decide_eq_false c6
    have t8 : decide (65 - a3 < (m : Int)) = false := decide_eq_false c6
    clear h hr1
    go_enter Try.func19, Try.ntmps19
    go_wp2_with (first | (go_at_call 39; (with_reducible refine (CK.out _).mono ?_); rintro e w1 ⟨rfl, rfl⟩) | (go_at_call 40; refine (rwalk_calls a0 a1 a2 a3 _ ha hb hf).mono ?_; rintro e w2 ⟨v, rfl, hr, hbl⟩; have HV := Aside0.mk hr; obtain ⟨A, cp, hv⟩ := Kd.R_slice hr; rw [← HM.out] at hv; subst hv; have n_ := Aside0.mk hbl; clear HB hr hbl; have HB := n_; clear n_))
    go_ret2
    exact ⟨_, rfl, by rw [← HR1.out]; exact HV.out, HB.out⟩
end Go.Proofs.Ytjnciljimacblaa.Q
/- DiffPlays: the walk: the call answers true. Conditions: the first number is one of Go's int. -/
namespace Go.Proofs.Ytjnciljimacblaa.Q
open Go.RowKit Go.Proofs.YtjnciljimacblaaW.PrintWords Go.Proofs.YtjnciljimacblaaW.PrintLast Go.Proofs.YtjnciljimacblaaW.PrintMore Go.Proofs.Ytjnciljimacblaa.P
set_option linter.unusedVariables false
set_option linter.unusedSimpArgs false
set_option maxRecDepth 100000
theorem one_same (o : S38) : jotterlaw17_one.f o.f0 o.f1 o.f2 o.f3 o.f4 o.f0 o.f1 o.f2 o.f3 o.f4 = some true := by
  unfold jotterlaw17_one.f
  rw [if_pos rfl, if_pos rfl, if_pos rfl, if_pos rfl, beq_self_eq_true]
theorem lines_same0 (x : List S38) (hx : x.length ≤ 5000) (n : Nat) : ∀ i : Nat, i + n = x.length → Ev (fun k => jotterlaw17_lines.l0 k x x i) true := by
  induction n with
  | zero =>
    intro i hi
    exact Ev.step (fun k => by rw [jotterlaw17_lines.l0]) (Ev.neg (by omega) (Ev.now _))
  | succ n ih =>
    intro i hi
    refine Ev.step (fun k => by rw [jotterlaw17_lines.l0]) (Ev.pos (by omega) (Ev.pos (by omega) (Ev.pos (by omega) (Ev.bind (Ev.const (one_same _)) (Ev.pos rfl ?_)))))
    rw [wrap_in (by omega) (by omega)]
    exact ih (i + 1) (by omega)
theorem lines_same (x : List S38) (hx : x.length ≤ 5000) : Ev (fun k => jotterlaw17_lines.f k x x) true := by
  unfold jotterlaw17_lines.f
  exact Ev.pos rfl (lines_same0 x hx x.length 0 (Nat.zero_add _))
theorem between_short (a b : ByteArray) (c f : Int) (hf : 1 ≤ f → True) : (betweenS a b c f).1.length ≤ 5000 := by
  unfold betweenS
  split
  · simp
  · split
    · simp
    · split
      · simp
      · have h := opsI_len c f a b
        simp only
        omega
set_option maxHeartbeats 8000000 in
theorem plays_calls (a b : ByteArray) (c f : Int) (hf : f ≤ 9223372036854775807) (w : World) : Calls Try.prog 7 #[.string a, .string b, .agg #[.int .i64 c, .int .i64 f]] w fun e w' => e = .returned (.bool true) ∧ Below w.heap.size w w' := by
  have hu40 := Try.underlying40
  obtain ⟨r1, r2, hb⟩ : ∃ r1 r2, betweenS a b c f = (r1, r2) := ⟨_, _, rfl⟩
  have hl := between_short a b c f (fun _ => trivial)
  rw [hb] at hl
  have hbf : diff_Between.f a b c f = some (r1, r2) := by unfold diff_Between.f; rw [if_pos hf, hb]
  obtain ⟨d1, d2, hd⟩ : ∃ d1 d2, diff_Distance.f a b = some (d1, d2) := ⟨_, _, rfl⟩
  obtain ⟨s1, s2, hc⟩ : ∃ s1 s2, diff_Common.f a b = some (s1, s2) := ⟨_, _, rfl⟩
  obtain ⟨k, hk⟩ := lines_same r1 hl
  have HBF := Aside0.mk hbf
  have HDF := Aside0.mk hd
  have HCF := Aside0.mk hc
  have HK := Aside0.mk hk
  have HB := Aside0.mk (Below.refl w.heap.size w)
  have z1 : (r2 == r2) = true := beq_self_eq_true _
  have z2 : (r2 != r2) = false := bne_self_eq_false _
  have z3 : (d2 != d2) = false := bne_self_eq_false _
  have z4 : (d1 != d1) = false := bne_self_eq_false _
  have z5 : (s2 == s2) = true := beq_self_eq_true _
  have z6 : (s1.toList == s1.toList) = true := beq_self_eq_true _
  clear hb hbf hd hc hk hl hf
  go_enter Try.func7, Try.ntmps7
  go_wp2_with (first
    | (go_at_call 16; refine (diff_Between.calls a b c f r1 r2 _ HBF.out).mono ?_; rintro e w1 ⟨v1, rfl, hr, hbl⟩; obtain ⟨A1, c1, rfl⟩ := Kd.R_slice hr; have H1 := Aside0.mk hr; have hbx := (hbl.block w.heap.size (blk_lt (heap_alloc_new _ _))).trans (heap_alloc_new w (.cells #[.int .i64 c, .int .i64 f] 40 (0, 0))); have p0 : w1.cell? ⟨w.heap.size, 0, none⟩ = some (.int .i64 c) := (blk_cell hbx 0).trans rfl; have p1 : w1.cell? ⟨w.heap.size, 1, none⟩ = some (.int .i64 f) := (blk_cell hbx 1).trans rfl; clear hbx; have n_ := Aside0.mk (below_step (below_alloc HB.out _) hbl); clear HB hr hbl; have HB := n_; clear n_)
    | (go_at_call 19; refine (rbetween_calls a b c f r1 r2 _ HBF.out).mono ?_; rintro e w2 ⟨v2, rfl, hr, hbl⟩; obtain ⟨A2, c2, rfl⟩ := Kd.R_slice hr; have H2 := Aside0.mk hr; have H1' := Aside0.mk (Kd.R_below H1.out hbl); have n_ := Aside0.mk (below_step HB.out hbl); clear HB hr hbl H1; have HB := n_; clear n_)
    | (go_at_call 17; refine (jotterlaw17_lines.calls k A1 c1 r1 A2 c2 r1 true _ (Kd.R_reads' H1'.out).2.2 (Kd.R_reads' H1'.out).2.1 (Kd.R_reads' H2.out).2.2 (Kd.R_reads' H2.out).2.1 (HK.out k (Nat.le_refl _))).mono ?_; rintro e w3 ⟨rfl, hbl⟩; have n_ := Aside0.mk (below_step HB.out hbl); clear HB hbl; have HB := n_; clear n_)
    | (go_at_call 12; refine (diff_Distance.calls a b d1 d2 _ HDF.out).mono ?_; rintro e w4 ⟨rfl, hbl⟩; have n_ := Aside0.mk (below_step HB.out hbl); clear HB hbl; have HB := n_; clear n_)
    | (go_at_call 20; refine (rdist_calls a b d1 d2 _ HDF.out).mono ?_; rintro e w5 ⟨rfl, hbl⟩; have n_ := Aside0.mk (below_step HB.out hbl); clear HB hbl; have HB := n_; clear n_)
    | (go_at_call 13; refine (diff_Common.calls a b s1 s2 _ HCF.out).mono ?_; rintro e w6 ⟨rfl, hbl⟩; have n_ := Aside0.mk (below_step HB.out hbl); clear HB hbl; have HB := n_; clear n_)
    | (go_at_call 21; refine (rcommon_calls a b s1 s2 _ HCF.out).mono ?_; rintro e w7 ⟨rfl, hbl⟩; have n_ := Aside0.mk (below_step HB.out hbl); clear HB hbl; have HB := n_; clear n_))
  go_ret
  exact ⟨rfl, HB.out⟩
end Go.Proofs.Ytjnciljimacblaa.Q
