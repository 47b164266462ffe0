/- DiffPlays: the argument that is a struct of two whole numbers; what the walk asks. No condition. -/
import Derived.Test.YtjnciljimacblaaPlaysAll
import Derived.Test.YtjnciljimacblaaOpenU
namespace Go.Proofs.Ytjnciljimacblaa.OpenS
open Go.ChangeShapes Go.WideShapes Go.Deep Go.RowKit Go.Proofs.YtjnciljimacblaaW.PrintWords Go.Proofs.Ytjnciljimacblaa.Q
set_option linter.unusedVariables false
structure S40 where
  f0 : Int
  f1 : Int
def fs40 : Array Field := #[{ name := "Client", type := 3, offset := 0, embedded := false, tag := "", pkgPath := "", byteOffset := 0 }, { name := "First", type := 3, offset := 1, embedded := false, tag := "", pkgPath := "", byteOffset := 8 }]
theorem und40 : Try.prog.underlying 40 = some (.struct fs40) := Try.underlying40
theorem one40 : oneCellFields Try.prog fs40 = true := by kernel_rfl
theorem cells40 : Try.prog.cellsOf 40 = fs40.size := by kernel_rfl
theorem list2 {α : Type} {l : List α} {a b : α} (h : l.length = 2) (h0 : l[0]? = some a) (h1 : l[1]? = some b) : l = [a, b] := by
  match l, h with
  | [x, y], _ => simp at h0 h1; subst h0; subst h1; rfl
theorem ask_of {cs : List Value} (hl : cs.length = fs40.size) (h : ∀ (j : Nat) (f : Field), fs40[j]? = some f → ∃ v, cs[j]? = some v ∧ FieldOk Try.prog f.type v) : ∃ x : S40, cs = [.int .i64 x.f0, .int .i64 x.f1] ∧ In64 x.f1 := by
  obtain ⟨v0, e0, o0, _⟩ := h 0 _ rfl
  obtain ⟨v1, e1, o1, _⟩ := h 1 _ rfl
  obtain ⟨n0, rfl, w0⟩ := o0 _ Try.underlying3
  obtain ⟨n1, rfl, w1⟩ := o1 _ Try.underlying3
  exact ⟨⟨n0, n1⟩, list2 hl e0 e1, in64_of w1⟩
theorem ask_arg {H : Type} {enc : TypeId × Value → H} {w : World} {base : Nat} {spare : Nat → Bool} {held : Bool} {d : DataW H} {ps : List MemPlace} {r : Reach} {b0 : Nat} {v : Value} (hv : Value.okWide Try.prog w r b0 40 v) (h : DataW.Trod enc Try.prog w base spare held 40 v d ps) : ∃ x : S40, v = .agg #[.int .i64 x.f0, .int .i64 x.f1] ∧ In64 x.f1 := by
  obtain ⟨cs, rfl, h1, h2⟩ := agg_cells und40 one40 cells40 hv h
  obtain ⟨x, rfl, hx⟩ := ask_of h1 h2
  exact ⟨x, rfl, hx⟩
end Go.Proofs.Ytjnciljimacblaa.OpenS
namespace Go.Proofs.Ytjnciljimacblaa.Pure
open Go.RowKit Go.Proofs.Ytjnciljimacblaa.Q Go.Proofs.Ytjnciljimacblaa.OpenS
theorem DiffPlays (a b : ByteArray) (c f : Int) (h : In64 f) : ∃ _k : Nat, ∀ W : World, Calls Try.prog 7 #[.string a, .string b, .agg #[.int .i64 c, .int .i64 f]] W fun e w' => e = .returned (.bool true) ∧ Below W.heap.size W w' :=
  ⟨0, fun W => plays_calls a b c f h.2 W⟩
end Go.Proofs.Ytjnciljimacblaa.Pure
