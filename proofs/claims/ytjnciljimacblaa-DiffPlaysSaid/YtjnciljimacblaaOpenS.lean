/- Arguments that are structs of whole numbers and bools, by value or in a slice, read as lists of records.
   Conditions: every field takes one cell. -/
import Derived.Deep.Slices
import Derived.Deep.Fields
import Derived.ChangeSame
import Derived.SizedLaws
import Derived.Test.YtjnciljimacblaaWWords
import Derived.Test.YtjnciljimacblaaWShare
namespace Go.Proofs.Ytjnciljimacblaa.OpenS
open Go.ChangeShapes Go.WideShapes Go.Deep Go.RowKit Go.Proofs.YtjnciljimacblaaW.PrintWords
set_option linter.unusedVariables false
section
variable {H : Type} {enc : TypeId × Value → H} {P : Program} {w : World} {base : Nat} {spare : Nat → Bool} {held : Bool}

/-- What a cell of this field's type holds. -/
def FieldOk (P : Program) (t : TypeId) (v : Value) : Prop :=
  (∀ k, P.underlying t = some (.int k) → ∃ n, v = .int k n ∧ (Lit.int k n).wf = true) ∧ (P.underlying t = some .bool → ∃ b, v = .bool b)

theorem fieldOk_of {t : TypeId} {fuel : Nat} {v : Value} {x : DataW H × List MemPlace} (h : DataW.trod enc P w base spare held fuel t [v] = some x) : FieldOk P t v := by
  constructor
  · intro k hk
    obtain ⟨n, e, _, hw⟩ := DataW.trod_int hk h
    exact ⟨n, by simpa using e, hw⟩
  · intro hb
    obtain ⟨b, e, _⟩ := DataW.trod_bool hb h
    exact ⟨b, by simpa using e⟩

/-- One struct's cells. -/
theorem struct_cells {e : TypeId} {fs : Array Field} {fuel : Nat} {cs : List Value} {x : DataW H × List MemPlace} (he : P.underlying e = some (.struct fs)) (hone : oneCellFields P fs = true) (hC : P.cellsOf e = fs.size)
    (h : DataW.trod enc P w base spare held fuel e cs = some x) : cs.length = fs.size ∧ ∀ (j : Nat) (f : Field), fs[j]? = some f → ∃ v, cs[j]? = some v ∧ FieldOk P f.type v := by
  obtain ⟨ys, n, _, _, hlen, hyl, hf⟩ := DataW.trod_struct he h
  refine ⟨hlen.trans hC, fun j f hj => ?_⟩
  obtain ⟨ho, hk⟩ := hone_of hone j f hj
  have hjl : j < fs.size := (Array.getElem?_eq_some_iff.1 hj).1
  have hcl : j < cs.length := by rw [hlen, hC]; exact hjl
  have h1 := hf j f hj
  rw [ho, hk] at h1
  have h2 : (cs.drop j).take 1 = [cs[j]'hcl] := by
    rw [List.drop_eq_getElem_cons hcl]
    rfl
  rw [h2, List.getElem?_eq_getElem (show j < ys.length by omega)] at h1
  exact ⟨_, List.getElem?_eq_getElem hcl, fieldOk_of h1⟩

/-- A slice of structs: what each cell holds; how the datum looks. -/
theorem slice_cells {t e : TypeId} {fs : Array Field} {A : Option Addr} {len cap : Nat} {d : DataW H} {ps : List MemPlace} (ht : P.underlying t = some (.slice e)) (he : P.underlying e = some (.struct fs)) (hone : oneCellFields P fs = true) (hC : P.cellsOf e = fs.size)
    (h : DataW.Trod enc P w base spare held t (.slice A len cap) d ps) :
    len ≤ cap ∧ cap ≤ maxLen ∧ ((len = 0 ∧ d = .nil) ∨ ∃ el sp, d = .slice el sp ∧ el.length = len) ∧
      (0 < len → ∃ ad, A = some ad ∧ ∀ i, i < len → ∃ cs : List Value, cs.length = fs.size ∧ (∀ j, j < fs.size → w.cell? (ad.add (i * fs.size + j)) = cs[j]?) ∧ ∀ (j : Nat) (f : Field), fs[j]? = some f → ∃ v, cs[j]? = some v ∧ FieldOk P f.type v) := by
  obtain ⟨fuel, hf⟩ := h
  rcases open_slice ht hf with ⟨hcs, hx⟩ | ⟨a, l, c, m, n, D, Pl, hcs, hb, hl, hm, hmm, hx, hi⟩
  · simp [Value.cells] at hcs
    obtain ⟨rfl, rfl, rfl⟩ := hcs
    simp only [Prod.mk.injEq] at hx
    exact ⟨Nat.le_refl _, by unfold maxLen; omega, .inl ⟨rfl, hx.1⟩, fun h => absurd h (by omega)⟩
  · simp [Value.cells] at hcs
    obtain ⟨rfl, rfl, rfl⟩ := hcs
    simp only [Prod.mk.injEq] at hx
    refine ⟨hl, hm, .inr ⟨_, _, hx.1, by simp⟩, fun _ => ⟨a, rfl, fun i hil => ?_⟩⟩
    have him : i < m := by
      rw [hmm]
      split <;> omega
    obtain ⟨cs, hc, htr⟩ := hi i him
    obtain ⟨h1, h2⟩ := struct_cells he hone hC htr
    rw [hC] at hc
    obtain ⟨_, hcl, hat⟩ := World.cells?_some hc
    exact ⟨cs, h1, fun j hj => by rw [← Go.Deep.add_add]; exact hat j hj, h2⟩

/-- A slice of structs as a row of records. -/
theorem slice_rows {α : Type} {R : α → List Value → Prop} {Q : α → Prop} {t e : TypeId} {fs : Array Field} {A : Option Addr} {len cap : Nat} {d : DataW H} {ps : List MemPlace} (ht : P.underlying t = some (.slice e)) (he : P.underlying e = some (.struct fs)) (hone : oneCellFields P fs = true) (hC : P.cellsOf e = fs.size)
    (hR : ∀ cs : List Value, cs.length = fs.size → (∀ (j : Nat) (f : Field), fs[j]? = some f → ∃ v, cs[j]? = some v ∧ FieldOk P f.type v) → ∃ x, R x cs ∧ Q x)
    (h : DataW.Trod enc P w base spare held t (.slice A len cap) d ps) :
    len ≤ cap ∧ ∃ l : List α, l.length = len ∧ ReadsRow R fs.size w A len l ∧ ∀ x ∈ l, Q x := by
  obtain ⟨h1, h2, _, h4⟩ := slice_cells ht he hone hC h
  refine ⟨h1, ?_⟩
  have hm : len ≤ 9223372036854775807 := by unfold maxLen at h2; omega
  rcases Nat.eq_zero_or_pos len with h0 | h0
  · subst h0
    exact ⟨[], rfl, ⟨rfl, by omega, fun h => absurd h (by omega)⟩, by simp⟩
  · obtain ⟨ad, hA, hc⟩ := h4 h0
    have key : ∀ n, n ≤ len → ∃ l : List α, l.length = n ∧ (∀ x ∈ l, Q x) ∧ ∀ j p, l[j]? = some p → ∃ c : List Value, c.length = fs.size ∧ R p c ∧ ∀ i u, c[i]? = some u → w.cell? (ad.add (j * fs.size + i)) = some u := by
      intro n
      induction n with
      | zero => intro _; exact ⟨[], rfl, by simp, by simp⟩
      | succ n ih =>
        intro hn
        obtain ⟨l, hl, hq, hp⟩ := ih (by omega)
        obtain ⟨cs, c1, c2, c3⟩ := hc n (by omega)
        obtain ⟨x, r1, r2⟩ := hR cs c1 c3
        refine ⟨l ++ [x], by simp [hl], fun y hy => ?_, fun j p hj => ?_⟩
        · rcases List.mem_append.1 hy with hy | hy
          · exact hq y hy
          · simp at hy; subst hy; exact r2
        · by_cases hjn : j < n
          · rw [List.getElem?_append_left (by omega)] at hj
            exact hp j p hj
          · have hlt : j < (l ++ [x]).length := (List.getElem?_eq_some_iff.1 hj).1
            simp at hlt
            obtain rfl : j = n := by omega
            rw [List.getElem?_append_right (by omega), hl] at hj
            simp at hj
            subst hj
            refine ⟨cs, c1, r1, fun i u hu => ?_⟩
            have hi : i < cs.length := (List.getElem?_eq_some_iff.1 hu).1
            rw [c2 i (by omega)]
            exact hu
    obtain ⟨l, hl, hq, hp⟩ := key len (Nat.le_refl _)
    exact ⟨l, hl, ⟨hl, hm, fun _ => ⟨ad, hA, hp⟩⟩, hq⟩

/-- Its weight. -/
theorem slice_weight {t e : TypeId} {fs : Array Field} {A : Option Addr} {len cap : Nat} {d : DataW H} {ps : List MemPlace} {ts : List TypeId} {ds : List (DataW H)} {j B : Nat} (ht : P.underlying t = some (.slice e)) (he : P.underlying e = some (.struct fs)) (hone : oneCellFields P fs = true) (hC : P.cellsOf e = fs.size)
    (hsz : (DataW.weightsEach P ts ds).all (· ≤ reachBytes) = true) (hj : ts[j]? = some t) (hd : ds[j]? = some d) (hB : P.bytesOf e = B)
    (h : DataW.Trod enc P w base spare held t (.slice A len cap) d ps) : len * B ≤ 140737488351232 := by
  obtain ⟨_, _, h3, _⟩ := slice_cells ht he hone hC h
  rcases h3 with ⟨rfl, _⟩ | ⟨el, sp, rfl, hl⟩
  · simp
  · have z := sized_slice hsz hj hd ht
    rw [hB, hl] at z
    exact Nat.le_trans (Nat.mul_le_mul_right _ (Nat.le_add_right _ _)) z

/-- A struct by value. -/
theorem agg_cells {r : Reach} {b0 : Nat} {t : TypeId} {fs : Array Field} {v : Value} {d : DataW H} {ps : List MemPlace} (hs : P.underlying t = some (.struct fs)) (hone : oneCellFields P fs = true) (hC : P.cellsOf t = fs.size) (hv : Value.okWide P w r b0 t v) (h : DataW.Trod enc P w base spare held t v d ps) :
    ∃ cs : List Value, v = .agg cs.toArray ∧ cs.length = fs.size ∧ ∀ (j : Nat) (f : Field), fs[j]? = some f → ∃ v, cs[j]? = some v ∧ FieldOk P f.type v := by
  obtain ⟨cs, rfl, hsz⟩ := okWide_struct hs hv
  obtain ⟨fuel, hf⟩ := h
  obtain ⟨h1, h2⟩ := struct_cells hs hone hC hf
  exact ⟨cs.toList, by simp, by simpa [Value.cells] using h1, by simpa [Value.cells] using h2⟩
end
/-- What came in and holds no addresses, as a shared row. -/
theorem F_of_rows {α : Type} {d : Kd α} {w : World} {A : Option Addr} {n : Nat} {xs : List α} (hK : ∀ (w w' : World) x cs, d.K w x cs → d.K w' x cs) (h : d.C w A n xs) : Kd.F d w (fun _ => True) A n xs := by
  intro W' hW
  obtain ⟨h1, h2, h3⟩ := h
  refine ⟨h1, h2, fun hn => ?_⟩
  obtain ⟨ad, e, hc⟩ := h3 hn
  refine ⟨ad, e, fun j p hj => ?_⟩
  obtain ⟨c, c1, c2, c3⟩ := hc j p hj
  refine ⟨c, c1, hK _ _ _ _ c2, fun i u hu => ?_⟩
  have hcell := c3 i u hu
  rw [← hcell]
  have hlt := World.block_lt_of_cell? w _ hcell
  unfold World.cell?
  rw [hW _ trivial hlt]
end Go.Proofs.Ytjnciljimacblaa.OpenS
