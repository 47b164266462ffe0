/- diff: what plain and Distance answer, as plain facts on lists of bytes. No walk. -/
import Derived.Test.YtjnciljimacblaaHD
namespace Go.Proofs.Ytjnciljimacblaa.P
set_option linter.unusedVariables false
set_option linter.unusedSimpArgs false
open Go.RowKit Go.Proofs.Ytjnciljimacblaa.Q Go.Proofs.YtjnciljimacblaaW.PrintWords
theorem wrap_in {n : Int} (h0 : -9223372036854775808 ≤ n) (h1 : n ≤ 9223372036854775807) : wrap64 n = n := by unfold wrap64; omega
/-- A text's bytes. -/
def L (a : ByteArray) : List UInt8 := a.data.toList
theorem L_length (a : ByteArray) : (L a).length = a.size := data_length a
theorem L_inj {a b : ByteArray} (h : L a = L b) : a = b := by
  obtain ⟨a⟩ := a; obtain ⟨b⟩ := b
  have : a = b := Array.toList_inj.1 h
  rw [this]
theorem L_append (a b : ByteArray) : L (a ++ b) = L a ++ L b := by
  unfold L
  rw [ByteArray.data_append, Array.toList_append]
theorem size_append (a b : ByteArray) : (a ++ b).size = a.size + b.size := by
  rw [← L_length, L_append, List.length_append, L_length, L_length]
theorem TT0 (a b : ByteArray) : TT a b 0 0 = (JotDiff.lcs (L a) (L b) : Nat) := rfl
theorem plainE_zero {a : ByteArray} : plainE a = 0 ↔ (L a).all okByte = true := by
  unfold plainE L
  constructor
  · intro h
    by_cases h1 : a.data.toList.all okByte = true
    · exact h1
    · rw [if_neg h1] at h; cases h
  · intro h; rw [if_pos h]
theorem plainE_append {a b : ByteArray} (ha : plainE a = 0) (hb : plainE b = 0) : plainE (a ++ b) = 0 := by
  rw [plainE_zero] at *
  rw [L_append, List.all_append, ha, hb]
  rfl
/-- A text of characters, at most n. -/
def plainT (s : ByteArray) (n : Nat) : ByteArray := strOfNums (plainL s n)
theorem plainT_size (s : ByteArray) (n : Nat) : (plainT s n).size ≤ n := by
  unfold plainT plainL
  rw [strOfNums_size, List.length_map, List.length_take]
  omega
theorem fix_range {b : Int} (h0 : 0 ≤ b) (h1 : b ≤ 255) : 32 ≤ fixB b ∧ fixB b ≤ 126 := by
  unfold fixB
  by_cases h : b < 32 ∨ b > 126
  · rw [if_pos h]; omega
  · rw [if_neg h]; omega
theorem plainT_ok (s : ByteArray) (n : Nat) : plainE (plainT s n) = 0 := by
  rw [plainE_zero, List.all_eq_true]
  intro x hx
  unfold L plainT at hx
  rw [strOfNums_data, List.mem_map] at hx
  obtain ⟨y, hy, rfl⟩ := hx
  unfold plainL at hy
  rw [List.mem_map] at hy
  obtain ⟨z, hz, rfl⟩ := hy
  have hz := List.mem_of_mem_take hz
  obtain ⟨j, hj, rfl⟩ := List.mem_iff_getElem.1 hz
  have hr := byte_range s j
  rw [List.getD_eq_getElem?_getD, List.getElem?_eq_getElem hj] at hr
  obtain ⟨h0, h1⟩ := fix_range hr.1 hr.2
  have e : (UInt8.ofNat (fixB (bytesOf s)[j]).toNat).toNat = (fixB (bytesOf s)[j]).toNat := by
    rw [UInt8.toNat_ofNat']
    simp at h0 h1 ⊢
    omega
  unfold okByte
  rw [e]
  simp at h0 h1 ⊢
  omega
theorem plain_f (s : ByteArray) (n : Nat) (h : s.size ≤ 140737488355328) : jotterlaw17_plain.f s (n : Int) = some (plainT s n) := by
  unfold jotterlaw17_plain.f plainT
  rw [if_pos ⟨by omega, h⟩, Int.toNat_natCast]
theorem check_ok {a b : ByteArray} (ha : a.size ≤ 512) (hb : b.size ≤ 512) (pa : plainE a = 0) (pb : plainE b = 0) : checkE a b = 0 := by
  unfold checkE
  rw [if_neg (by split <;> omega), pa, pb]
  rfl
theorem dist_f {a b : ByteArray} (ha : a.size ≤ 512) (hb : b.size ≤ 512) (pa : plainE a = 0) (pb : plainE b = 0) : diff_Distance.f a b = some (distS a b, 0) := by
  unfold diff_Distance.f
  rw [if_pos (check_ok ha hb pa pb)]
theorem distS_eq (a b : ByteArray) : distS a b = ((L a).length : Int) + ((L b).length : Int) - 2 * (JotDiff.lcs (L a) (L b) : Nat) := by
  unfold distS
  rw [TT0, L_length, L_length]
theorem toList_L (a : ByteArray) : a.toList = L a := ByteArray.toList_eq a
theorem Ev.pos {α : Type} {c : Prop} [Decidable c] {f g : Nat → Option α} {r : α} (hc : c) (h : Ev f r) : Ev (fun k => if c then f k else g k) r := Ev.congr (fun k => if_pos hc) h
theorem Ev.neg {α : Type} {c : Prop} [Decidable c] {f g : Nat → Option α} {r : α} (hc : ¬ c) (h : Ev g r) : Ev (fun k => if c then f k else g k) r := Ev.congr (fun k => if_neg hc) h
theorem Ev.const {α : Type} {x : Option α} {r : α} (h : x = some r) : Ev (fun _ => x) r := ⟨0, fun _ _ => h⟩
theorem Ev.from_ {α : Type} {g : Nat → Option α} {r : α} (m : Nat) (h : ∀ k, g (k + m) = some r) : Ev g r := by
  refine ⟨m, fun n hn => ?_⟩
  obtain ⟨k, rfl⟩ : ∃ k, n = k + m := ⟨n - m, by omega⟩
  exact h k
/-- Bytes as whole numbers. -/
def numsOf (l : List UInt8) : List Int := l.map (fun u => (u.toNat : Int))
theorem L_nums (l : List UInt8) : L (strOfNums (numsOf l)) = l := by
  unfold L numsOf
  rw [strOfNums_data, List.map_map]
  conv => rhs; rw [← List.map_id l]
  apply List.map_congr_left
  intro u _
  show UInt8.ofNat ((u.toNat : Int)).toNat = u
  rw [Int.toNat_natCast, UInt8.ofNat_toNat]
theorem bt_L (a : ByteArray) (i : Nat) (h : i < a.size) : bt a (i : Int) = (((L a)[i]'(by rw [L_length]; exact h)).toNat : Int) := (bt_at a (i : Int) h).symm
theorem plainE_part {a b : ByteArray} (h : (L b).Sublist (L a)) (ha : plainE a = 0) : plainE b = 0 := by
  rw [plainE_zero, List.all_eq_true] at *
  exact fun x hx => ha x (h.subset hx)
end Go.Proofs.Ytjnciljimacblaa.P
