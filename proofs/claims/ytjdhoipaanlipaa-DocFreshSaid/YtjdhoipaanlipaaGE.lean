/- Rows of elements: more of what is known of them. No walk. -/
import Derived.Test.YtjdhoipaanlipaaGD
namespace Go.Proofs.Ytjdhoipaanlipaa.G
set_option linter.unusedVariables false
set_option linter.unusedSimpArgs false
open Go.RowKit Go.Proofs.Ytjdhoipaanlipaa.Q Go.Proofs.YtjdhoipaanlipaaW.PrintWords
/-- A row that lies in a block. -/
theorem Row.ofB {w : World} {base : Nat} {ok : Nat → Prop} {v : Value} {xs : List S24} (h : Kd.R k24 24 w base ok v xs) (hb : ∃ b, v.ownBlock = some b) : ∃ t : SV, v = sv t ∧ Row w base t xs := by
  obtain ⟨b, hb⟩ := hb
  have h0 := h
  obtain ⟨_, inner, hown, _⟩ := h
  rcases hown.2 with ⟨e, _⟩ | ⟨g, cap, cur, e, _⟩
  · rw [e] at hb; simp [Value.ownBlock] at hb
  · subst e
    refine ⟨(g, xs.length, cap), rfl, Kd.R_mono (Kd.R_tight (v := .slice (some ⟨g, 0, none⟩) xs.length cap) rfl h0) (fun k hk => ?_)⟩
    have : some k = some g := hk
    injection this
theorem Row.tight {w : World} {base : Nat} {ok : Nat → Prop} {t : SV} {xs : List S24} (h : Kd.R k24 24 w base ok (sv t) xs) : Row w base t xs :=
  Kd.R_mono (Kd.R_tight (v := sv t) rfl h) (fun k hk => by have h1 : some k = some t.1 := hk; injection h1)
/-- A list of rows, each in a block of its own. -/
structure Rows (w : World) (base : Nat) (v : Value) (ss : List SV) (xss : List (List S24)) : Prop where
  list : Kd.R kS 22 w base (fun _ => True) v ss
  len : ss.length = xss.length
  row : ∀ (i : Nat) (s : SV) (xs : List S24), ss[i]? = some s → xss[i]? = some xs → Row w base s xs
  dist : ∀ (i j : Nat) (s t : SV), ss[i]? = some s → ss[j]? = some t → s.1 = t.1 → i = j
end Go.Proofs.Ytjdhoipaanlipaa.G
