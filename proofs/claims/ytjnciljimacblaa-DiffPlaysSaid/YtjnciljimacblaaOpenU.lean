/- Arguments that are slices of bools, and slices of Steps, as lists. No condition. -/
import Derived.Test.YtjnciljimacblaaOpenS
import Derived.Test.YtjnciljimacblaaQx0
import Derived.OpenShut
namespace Go.Proofs.Ytjnciljimacblaa.OpenS
open Go.ChangeShapes Go.WideShapes Go.Deep Go.RowKit Go.Proofs.YtjnciljimacblaaW.PrintWords Go.Proofs.Ytjnciljimacblaa.Q
set_option linter.unusedVariables false
def In64 (n : Int) : Prop := -9223372036854775808 ≤ n ∧ n ≤ 9223372036854775807
def In8 (n : Int) : Prop := 0 ≤ n ∧ n ≤ 255
theorem in64_of {n : Int} (h : (Lit.int .i64 n).wf = true) : In64 n := by have := bounds_i64 h; unfold In64; omega
theorem in8_of {n : Int} (h : (Lit.int .u8 n).wf = true) : In8 n := by have := bounds_u8 h; unfold In8; omega
structure StepOk (x : S56) : Prop where
  f1 : In64 x.f1
  f2 : In8 x.f2
theorem list3 {α : Type} {l : List α} {a b c : α} (h : l.length = 3) (h0 : l[0]? = some a) (h1 : l[1]? = some b) (h2 : l[2]? = some c) : l = [a, b, c] := by
  match l, h with
  | [x, y, z], _ => simp at h0 h1 h2; subst h0; subst h1; subst h2; rfl
def fs56 : Array Field := #[{ name := "Out", type := 4, offset := 0, embedded := false, tag := "", pkgPath := "", byteOffset := 0 }, { name := "N", type := 3, offset := 1, embedded := false, tag := "", pkgPath := "", byteOffset := 8 }, { name := "Ch", type := 5, offset := 2, embedded := false, tag := "", pkgPath := "", byteOffset := 16 }]
theorem und56 : Try.prog.underlying 56 = some (.struct fs56) := Try.underlying56
theorem one56 : oneCellFields Try.prog fs56 = true := by kernel_rfl
theorem cells56 : Try.prog.cellsOf 56 = fs56.size := by kernel_rfl
theorem cells4 : Try.prog.cellsOf 4 = 1 := by kernel_rfl
theorem step_of {cs : List Value} (hl : cs.length = fs56.size) (h : ∀ (j : Nat) (f : Field), fs56[j]? = some f → ∃ v, cs[j]? = some v ∧ FieldOk Try.prog f.type v) : ∃ x : S56, cs = [.bool x.f0, .int .i64 x.f1, .int .u8 x.f2] ∧ StepOk x := by
  obtain ⟨v0, e0, _, o0⟩ := h 0 _ rfl
  obtain ⟨v1, e1, o1, _⟩ := h 1 _ rfl
  obtain ⟨v2, e2, o2, _⟩ := h 2 _ rfl
  obtain ⟨n0, rfl⟩ := o0 Try.underlying4
  obtain ⟨n1, rfl, w1⟩ := o1 _ Try.underlying3
  obtain ⟨n2, rfl, w2⟩ := o2 _ Try.underlying5
  exact ⟨⟨n0, n1, n2⟩, list3 hl e0 e1 e2, ⟨in64_of w1, in8_of w2⟩⟩
section
variable {H : Type} {enc : TypeId × Value → H} {w : World} {base : Nat} {spare : Nat → Bool} {held : Bool} {A : Option Addr} {len cap : Nat} {d : DataW H} {ps : List MemPlace} {ts : List TypeId} {ds : List (DataW H)} {j : Nat} {r : Reach} {b0 : Nat} {v : Value}
theorem steps_of (h : DataW.Trod enc Try.prog w base spare held 52 (.slice A len cap) d ps) : len ≤ cap ∧ ∃ l : List S56, l.length = len ∧ Kd.C k56 w A len l ∧ ∀ x ∈ l, StepOk x :=
  slice_rows Try.underlying52 und56 one56 cells56 (fun cs h1 h2 => by
    obtain ⟨x, rfl, hx⟩ := step_of h1 h2
    exact ⟨x, k56_mk _ _, hx⟩) h
theorem steps_weight (hsz : (DataW.weightsEach Try.prog ts ds).all (· ≤ reachBytes) = true) (hj : ts[j]? = some 52) (hd : ds[j]? = some d) (h : DataW.Trod enc Try.prog w base spare held 52 (.slice A len cap) d ps) : len ≤ 5864062014634 := by
  have := slice_weight (B := 24) Try.underlying52 und56 one56 cells56 hsz hj hd (by kernel_rfl) h
  omega
/-- A slice of bools. -/
theorem bools_of (h : DataW.Trod enc Try.prog w base spare held 27 (.slice A len cap) d ps) : len ≤ cap ∧ ∃ l : List Bool, l.length = len ∧ Kd.C Kd.bool w A len l := by
  obtain ⟨fuel, hf⟩ := h
  rcases open_slice Try.underlying27 hf with ⟨hcs, hx⟩ | ⟨a, l, c, m, n, D, Pl, hcs, hb, hl, hm, hmm, hx, hi⟩
  · simp [Value.cells] at hcs
    obtain ⟨rfl, rfl, rfl⟩ := hcs
    exact ⟨Nat.le_refl _, [], rfl, rfl, by omega, fun h => absurd h (by omega)⟩
  · simp [Value.cells] at hcs
    obtain ⟨rfl, rfl, rfl⟩ := hcs
    refine ⟨hl, ?_⟩
    have hml : len ≤ 9223372036854775807 := by unfold maxLen at hm; omega
    have key : ∀ k, k ≤ len → ∃ l : List Bool, l.length = k ∧ ∀ j p, l[j]? = some p → w.cell? (a.add j) = some (.bool p) := by
      intro k
      induction k with
      | zero => intro _; exact ⟨[], rfl, by simp⟩
      | succ k ih =>
        intro hn
        obtain ⟨l, hll, hp⟩ := ih (by omega)
        obtain ⟨cs, hc, htr⟩ := hi k (by rw [hmm]; split <;> omega)
        obtain ⟨x, e, _⟩ := DataW.trod_bool Try.underlying4 htr
        have e : cs = [.bool x] := by simpa using e
        rw [cells4] at hc
        obtain ⟨_, hcl, hat⟩ := World.cells?_some hc
        have h0 := hat 0 (by omega)
        rw [e, Nat.mul_one] at h0
        refine ⟨l ++ [x], by simp [hll], fun j p hj => ?_⟩
        by_cases hjk : j < k
        · rw [List.getElem?_append_left (by omega)] at hj
          exact hp j p hj
        · have hlt : j < (l ++ [x]).length := (List.getElem?_eq_some_iff.1 hj).1
          simp at hlt
          obtain rfl : j = k := by omega
          rw [List.getElem?_append_right (by omega), hll] at hj
          simp at hj
          subst hj
          exact h0
    obtain ⟨l, hll, hp⟩ := key len (Nat.le_refl _)
    refine ⟨l, hll, hll, hml, fun _ => ⟨a, rfl, fun j p hj => ⟨[.bool p], rfl, rfl, fun i u hu => ?_⟩⟩⟩
    have hi0 : i = 0 := by have := (List.getElem?_eq_some_iff.1 hu).1; simp at this; omega
    subst hi0
    have hu : Value.bool p = u := Option.some.inj hu
    rw [← hu]
    have := hp j p hj
    show w.cell? (a.add (j * 1 + 0)) = _
    rw [Nat.mul_one, Nat.add_zero]
    exact this
end
end Go.Proofs.Ytjnciljimacblaa.OpenS
