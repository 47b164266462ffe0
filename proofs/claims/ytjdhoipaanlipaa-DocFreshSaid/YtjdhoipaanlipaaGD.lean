/- The list of the lengthened rows, and how it moves. No walk. -/
import Derived.Test.YtjdhoipaanlipaaGC
namespace Go.Proofs.Ytjdhoipaanlipaa.G
set_option linter.unusedVariables false
set_option linter.unusedSimpArgs false
open Go.RowKit Go.Proofs.Ytjdhoipaanlipaa.Q Go.Proofs.YtjdhoipaanlipaaW.PrintWords
theorem St1.core {w W : World} {base : Nat} {A : Option Addr} {ss : List SV} (h : St1 base A ss ss.length 0 W) : Core w base A ss [] 0 W := by
  obtain ⟨ho, D, hr, hm⟩ := h
  refine ⟨ho, by simp, fun j s _ hs => ?_, by simp, by simp, by simp⟩
  have e : D j = m1 j s.2.1 := by
    have hl := (hr j s hs).len
    apply List.ext_getElem?
    intro m
    by_cases hms : m < s.2.1
    · rw [hm j s hs m (.inl (List.getElem?_eq_some_iff.1 hs).1) hms]
      simp [m1, hms]
    · rw [List.getElem?_eq_none (by omega), List.getElem?_eq_none (by rw [m1_length]; omega)]
  rw [← e]
  exact hr j s hs
/-- The list of the rows that are done. -/
def Grow (w : World) (base : Nat) (v : Value) (gs : List SV) (W : World) : Prop := Kd.R kS 22 W base (fun q => w.heap.size ≤ q) v gs
theorem Grow.step {w W W1 : World} {base : Nat} {v : Value} {gs : List SV} {t t' : SV} {xs : List S24} (h : Grow w base v gs W) (r : Row W base t xs) (hg : (t'.1 = t.1 ∧ W.grownBy W1 (some t.1)) ∨ (W.heap.size ≤ t'.1 ∧ Below W.heap.size W W1)) : Grow w base v gs W1 := by
  rcases hg with ⟨_, hg⟩ | ⟨_, hb⟩
  · exact Kd.R_over' (v := sv t) (e' := 24) h (Kd.R_typed r) (by decide) hg
  · exact Kd.R_below h hb
theorem Grow.apart {w W : World} {base : Nat} {v : Value} {gs : List SV} {t : SV} {xs : List S24} (h : Grow w base v gs W) (r : Row W base t xs) : some t.1 ≠ v.ownBlock := by
  obtain ⟨cells, hc⟩ := Kd.R_typed r t.1 rfl
  exact Kd.R_ne h hc (by decide)
theorem Core.listed {w W W1 : World} {base : Nat} {A : Option Addr} {ss gs : List SV} {m : Nat} {v : Value} {gs' : List SV} (O : Old w A ss) (h : Core w base A ss gs m W) (g : Grow w base v gs' W) (hg : W.grownBy W1 v.ownBlock) : Core w base A ss gs m W1 := by
  have ge : ∀ q, v.ownBlock = some q → w.heap.size ≤ q := fun q hq => g.1 q hq
  refine h.grown hg (fun ad e he => ?_) (fun t ht => ?_) (fun j s hs _ he => ?_)
  · have := ge _ he.symm; have := O.list ad e; omega
  · obtain ⟨j, hj, rfl⟩ := List.mem_iff_getElem.1 ht
    have hjs : j < ss.length := by have := h.len; omega
    exact g.apart (h.done j gs[j] ss[j] (List.getElem?_eq_getElem hj) (List.getElem?_eq_getElem hjs)).1
  · have := ge _ he.symm; have := O.rows s (List.mem_of_getElem? hs); omega
theorem below_step2 {w0 W W1 : World} {t t' : SV} (hb : Below w0.heap.size w0 W) (ht : w0.heap.size ≤ t.1) (hg : (t'.1 = t.1 ∧ W.grownBy W1 (some t.1)) ∨ (W.heap.size ≤ t'.1 ∧ Below W.heap.size W W1)) : Below w0.heap.size w0 W1 := by
  rcases hg with ⟨_, hg⟩ | ⟨_, h⟩
  · exact pw_below_grown hb _ hb.size hg (fun q hq => by injection hq with hq; omega)
  · exact below_step hb h
theorem kept_step2 {w W W1 : World} {S : Nat → Prop} {t t' : SV} (hk : Kept w W S) (ht : S t.1 ∨ w.heap.size ≤ t.1) (hg : (t'.1 = t.1 ∧ W.grownBy W1 (some t.1)) ∨ (W.heap.size ≤ t'.1 ∧ Below W.heap.size W W1)) : Kept w W1 S := by
  rcases hg with ⟨_, hg⟩ | ⟨_, h⟩
  · exact Kept.of_grown hg hk (fun q hq => by injection hq with hq; rw [← hq]; exact ht)
  · exact hk.below h
/-- Element k of a row that reads as a list. -/
theorem C24_at {w : World} {A : Option Addr} {n k : Nat} {xs : List S24} {x : S24} (h : Kd.C k24 w A n xs) (hx : xs[k]? = some x) : ∃ ad, A = some ad ∧ w.cell? (ad.add (k * 3)) = some (.int .u8 x.f0) ∧ w.cell? ⟨(ad.add (k * 3)).block, (ad.add (k * 3)).off + 1, none⟩ = some (.int .i64 x.f1) ∧ w.cell? ⟨(ad.add (k * 3)).block, (ad.add (k * 3)).off + 2, none⟩ = some (.int .i64 x.f2) := by
  have hk : k < xs.length := (List.getElem?_eq_some_iff.1 hx).1
  have hn := h.1
  obtain ⟨ad, e, h0, h1, h2⟩ := at_T24 h (k : Int) (by omega) (by omega)
  have ex : rd_T24 xs (k : Int) = x := by rw [P.rd24, P.getD_at _ _ _ hk]; rw [List.getElem?_eq_getElem hk] at hx; exact Option.some.inj hx
  rw [ex, Int.toNat_natCast] at h0 h1 h2
  exact ⟨ad, e, h0, h1, h2⟩
end Go.Proofs.Ytjdhoipaanlipaa.G
