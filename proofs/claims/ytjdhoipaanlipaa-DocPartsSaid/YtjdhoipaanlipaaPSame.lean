/- same, short, twin, place: small functions of the statements. -/
import Derived.Test.YtjdhoipaanlipaaPEq
import Derived.Test.YtjdhoipaanlipaaQx15
import Derived.Test.YtjdhoipaanlipaaQx16
import Derived.Test.YtjdhoipaanlipaaQx21
import Derived.Test.YtjdhoipaanlipaaQx23
namespace Go.Proofs.Ytjdhoipaanlipaa.P
set_option linter.unusedVariables false
set_option linter.unusedSimpArgs false
open Go.RowKit Go.Proofs.Ytjdhoipaanlipaa.Q Go.Proofs.YtjdhoipaanlipaaW.PrintWords
theorem sameS (a b : List S24) (h : a.length ≤ 5864062014634) : Ev (fun k => jotterlaw04_same.f k a b) (decide (a = b)) := by
  unfold jotterlaw04_same.f
  exact Ev.bind (refEqual a b h) (Ev.now _)
theorem sameSelf (a : List S24) (h : a.length ≤ 5864062014634) : Ev (fun k => jotterlaw04_same.f k a a) true := by
  have := sameS a a h
  rwa [decide_eq_true rfl] at this
theorem shortS (l : List S30) : jotterlaw04_short.f l = some (l.take 300) := by
  unfold jotterlaw04_short.f
  by_cases h : (l.length : Int) > 300
  · rw [if_pos h, if_pos (by omega)]
  · rw [if_neg h, List.take_of_length_le (by omega)]
theorem twin_l0 (l : List S24) (hl : l.length ≤ 5864062014634) (rest : List S24) : ∀ i : Nat, i + rest.length = l.length →
    Ev (fun k => jotterlaw04_twin.l0 k l ((List.range i).map (fun j => l.getD j z24) ++ rest) i) l := by
  induction rest with
  | nil =>
    intro i hi
    refine Ev.from_ 1 fun k => ?_
    simp only [List.length_nil, Nat.add_zero] at hi
    subst hi
    simp only [jotterlaw04_twin.l0]
    rw [if_neg (by omega), List.append_nil, range_getD z24 l]
  | cons r rest ih =>
    intro i hi
    simp only [List.length_cons] at hi
    refine Ev.step (fun k => by rw [jotterlaw04_twin.l0]) ?_
    refine Ev.pos (by omega) (Ev.pos (by omega) (Ev.pos (by rw [fill_length, List.length_cons]; omega) ?_))
    rw [Int.toNat_natCast, rd24, wrap_in (by omega) (by omega)]
    show Ev (fun k => jotterlaw04_twin.l0 k l (((List.range i).map (fun j => l.getD j z24) ++ r :: rest).set i (l.getD i z24)) ((i : Int) + 1)) l
    rw [set_fill (fun j => l.getD j z24)]
    exact ih (i + 1) (by omega)
theorem twinS (l : List S24) (hl : l.length ≤ 5864062014634) : Ev (fun k => jotterlaw04_twin.f k l) l := by
  unfold jotterlaw04_twin.f
  refine Ev.pos (by omega) (Ev.pos (by omega) ?_)
  rw [Int.toNat_natCast]
  exact twin_l0 l hl (List.replicate l.length z24) 0 (by simp)
/-- A number brought into 0 to m - 1. -/
theorem placeS (n m : Int) (hm : 0 < m) (hm2 : m ≤ 4611686018427387904) : ∃ r, jotterlaw04_place.f n m = some r ∧ 0 ≤ r ∧ r < m := by
  unfold jotterlaw04_place.f
  rw [if_neg (by omega)]
  have h1 := Int.tmod_lt_of_pos n hm
  have h2 : -m < Int.tmod n m := Int.lt_tmod_of_pos n hm
  by_cases h : Int.tmod n m < 0
  · rw [if_pos h, wrap_in (by omega) (by omega)]
    exact ⟨_, rfl, by omega, by omega⟩
  · rw [if_neg h]
    exact ⟨_, rfl, by omega, by omega⟩
/-- The character that a statement makes of a byte. -/
theorem chS (c : Int) (h0 : 0 ≤ c) (h1 : c ≤ 255) : 32 ≤ (32 + Int.tmod c 95) % 256 ∧ (32 + Int.tmod c 95) % 256 ≤ 126 := by
  rw [Int.tmod_eq_emod_of_nonneg h0]
  omega
end Go.Proofs.Ytjdhoipaanlipaa.P
