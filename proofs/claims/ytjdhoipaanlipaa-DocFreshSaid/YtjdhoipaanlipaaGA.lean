/- Rows of elements that lie in a list of slices, each in a block of its own: what is known of them, and how stores and appends move it. No walk. -/
import Derived.Test.YtjdhoipaanlipaaPA
namespace Go.Proofs.Ytjdhoipaanlipaa.G
set_option linter.unusedVariables false
set_option linter.unusedSimpArgs false
open Go.RowKit Go.Proofs.Ytjdhoipaanlipaa.Q Go.Proofs.YtjdhoipaanlipaaW.PrintWords
/-- A slice that begins at its block's head: block, length, capacity. -/
abbrev SV := Nat × Nat × Nat
def sv (s : SV) : Value := .slice (some ⟨s.1, 0, none⟩) s.2.1 s.2.2
def kS : Kd SV := Kd.scalar sv (fun _ => rfl)
/-- A row of elements of the call's own. -/
def Row (w : World) (base : Nat) (s : SV) (xs : List S24) : Prop := Kd.R k24 24 w base (fun k => k = s.1) (sv s) xs
section
variable {w w1 : World} {base : Nat} {s t : SV} {xs : List S24}
theorem Row.len (h : Row w base s xs) : xs.length = s.2.1 := by
  have := (Kd.R_reads' h).1
  exact this.symm
theorem Row.cap (h : Row w base s xs) : s.2.1 ≤ s.2.2 := by
  have := (Kd.R_reads' h)
  have h2 := this.2.1
  have h1 := this.1
  omega
theorem Row.reads (h : Row w base s xs) : Kd.C k24 w (some ⟨s.1, 0, none⟩) xs.length xs := (Kd.R_reads' h).2.2
theorem Row.lt (h : Row w base s xs) : s.1 < w.heap.size := Kd.R_lt h s.1 rfl
theorem Row.ge (h : Row w base s xs) : base ≤ s.1 := Kd.R_base h s.1 rfl
theorem Row.below (h : Row w base s xs) (hb : Below w.heap.size w w1) : Row w1 base s xs := Kd.R_below h hb
theorem Row.grown (h : Row w base s xs) {row : Option Nat} (hg : w.grownBy w1 row) (hne : some s.1 ≠ row) : Row w1 base s xs := Kd.R_grown h hg (fun k hk => by rw [hk]; exact hne)
theorem Row.kept {S : Nat → Prop} (h : Row w base s xs) (hk : Kept w w1 S) (hne : ¬ S s.1) : Row w1 base s xs := Kd.R_kept h hk (fun k e => by rw [e]; exact hne)
end
/-- The world behind a store of an element. -/
def put3 (w : World) (g k : Nat) (y : S24) : World := ((w.setCell ⟨g, k * 3, none⟩ (.int .u8 y.f0)).setCell ⟨g, k * 3 + 1, none⟩ (.int .i64 y.f1)).setCell ⟨g, k * 3 + 2, none⟩ (.int .i64 y.f2)
/-- An element of a row: its cells, and a store into them. -/
theorem Row.elem {w : World} {base : Nat} {s : SV} {xs : List S24} (h : Row w base s xs) {k : Nat} {x : S24} (hx : xs[k]? = some x) :
    (w.cell? ⟨s.1, k * 3, none⟩ = some (.int .u8 x.f0) ∧ w.cell? ⟨s.1, k * 3 + 1, none⟩ = some (.int .i64 x.f1) ∧ w.cell? ⟨s.1, k * 3 + 2, none⟩ = some (.int .i64 x.f2)) ∧
    (w.frozen? ⟨s.1, k * 3, none⟩ = false ∧ w.frozen? ⟨s.1, k * 3 + 1, none⟩ = false ∧ w.frozen? ⟨s.1, k * 3 + 2, none⟩ = false) ∧
    ∀ y : S24, Row (put3 w s.1 k y) base s (xs.set k y) ∧ w.grownBy (put3 w s.1 k y) (some s.1) := by
  have hk : k < xs.length := (List.getElem?_eq_some_iff.1 hx).1
  have hl := h.len
  have hk0 : (0 : Int) ≤ (k : Int) := by omega
  have hk1 : (k : Int) < (s.2.1 : Int) := by omega
  obtain ⟨c, hcl, hM, hcc, hfr⟩ := Kd.R_elem h z24 (k : Int) hk0 hk1
  obtain rfl := k24_openM hM
  have e : xs.getD (k : Int).toNat z24 = x := by rw [Int.toNat_natCast, P.getD_at _ _ _ hk]; rw [List.getElem?_eq_getElem hk] at hx; exact Option.some.inj hx
  rw [e] at hcc
  refine ⟨⟨hcc 0 _ rfl, hcc 1 _ rfl, hcc 2 _ rfl⟩, ⟨hfr 0, hfr 1, hfr 2⟩, fun y => ?_⟩
  rw [e] at hcl
  have := Kd.R_seg h (k : Int) hk0 hk1 (seg := [.int .u8 y.f0, .int .i64 y.f1, .int .i64 y.f2]) (j := 0) hcl hcc (show 3 ≤ 3 from by decide) (x' := y) (okp := fun _ => False) (k24_mkM _ _ _ y) (fun _ hk => hk.elim)
  exact this
theorem C_grown {α : Type} {d : Kd α} {w w1 : World} {A : Option Addr} {n : Nat} {xs : List α} (hd : ∀ (w w' : World) x cs, d.K w x cs → d.K w' x cs) (h : d.C w A n xs) {row : Option Nat} (hg : w.grownBy w1 row) (hne : ∀ ad, A = some ad → 0 < n → some ad.block ≠ row) : d.C w1 A n xs := by
  obtain ⟨h1, h2, h3⟩ := h
  refine ⟨h1, h2, fun hn => ?_⟩
  obtain ⟨ad, e, hc⟩ := h3 hn
  refine ⟨ad, e, fun j p hj => ?_⟩
  obtain ⟨c, c1, c2, c3⟩ := hc j p hj
  exact ⟨c, c1, hd _ _ _ _ c2, fun i u hu => hg.cell (c3 i u hu) (by rw [add_block]; exact hne ad e hn)⟩
theorem kS_K (w w' : World) (x : SV) (cs : List Value) (h : kS.K w x cs) : kS.K w' x cs := h
/-- The slices lie in blocks of their own, none of them the list's. -/
structure Fam (A : Option Addr) (ss : List SV) : Prop where
  dist : ∀ (i j : Nat) (s t : SV), ss[i]? = some s → ss[j]? = some t → s.1 = t.1 → i = j
  apart : ∀ ad, A = some ad → ∀ s ∈ ss, ad.block ≠ s.1
def mk1 (j m : Nat) : S24 := ⟨0, -1 - (j : Int), m⟩
/-- The first loop: the rows ahead of i are marked whole, the row i up to k. -/
structure St1 (base : Nat) (A : Option Addr) (ss : List SV) (i k : Nat) (w : World) : Prop where
  outer : Kd.C kS w A ss.length ss
  rows : ∃ D : Nat → List S24, (∀ j s, ss[j]? = some s → Row w base s (D j)) ∧ ∀ j s, ss[j]? = some s → ∀ m, (j < i ∨ (j = i ∧ m < k)) → m < s.2.1 → (D j)[m]? = some (mk1 j m)
section
variable {base : Nat} {A : Option Addr} {ss : List SV} {i k : Nat} {w w1 : World} {s : SV}
theorem St1.row (h : St1 base A ss i k w) (hs : ss[i]? = some s) : ∃ xs, Row w base s xs ∧ ∀ w1, Row w1 base s (xs.set k (mk1 i k)) → w.grownBy w1 (some s.1) → Fam A ss → St1 base A ss i (k + 1) w1 := by
  obtain ⟨ho, D, hr, hm⟩ := h
  refine ⟨D i, hr i s hs, fun w1 h1 hg F => ⟨C_grown kS_K ho hg (fun ad e _ he => ?_), fun j => if j = i then (D i).set k (mk1 i k) else D j, fun j t ht => ?_, fun j t ht m hjm hmt => ?_⟩⟩
  · injection he with he
    exact F.apart ad e s (List.mem_of_getElem? hs) he
  · by_cases e : j = i
    · subst e
      rw [hs] at ht
      injection ht with ht
      subst ht
      dsimp only
      rw [if_pos rfl]
      exact h1
    · dsimp only
      rw [if_neg e]
      exact (hr j t ht).grown hg (fun he => e (F.dist j i t s ht hs (Option.some.inj he)))
  · by_cases e : j = i
    · subst e
      dsimp only
      rw [if_pos rfl]
      rw [hs] at ht
      injection ht with ht
      subst ht
      have hl := (hr j s hs).len
      by_cases em : m = k
      · subst em
        rw [List.getElem?_set_self (by omega)]
      · rw [List.getElem?_set_ne (Ne.symm em)]
        exact hm j s hs m (by omega) hmt
    · dsimp only
      rw [if_neg e]
      exact hm j t ht m (by omega) hmt
theorem St1.next (h : St1 base A ss i k w) (hs : ss[i]? = some s) (hk : s.2.1 ≤ k) : St1 base A ss (i + 1) 0 w := by
  obtain ⟨ho, D, hr, hm⟩ := h
  refine ⟨ho, D, hr, fun j t ht m hjm hmt => ?_⟩
  by_cases e : j = i
  · subst e
    rw [hs] at ht
    injection ht with ht
    subst ht
    exact hm j s hs m (.inr ⟨rfl, by omega⟩) hmt
  · exact hm j t ht m (.inl (by omega)) hmt
end
/-- Element i of the list of slices. -/
theorem outer_at {w : World} {A : Option Addr} {ss : List SV} (h : Kd.C kS w A ss.length ss) {i : Nat} {s : SV} (hs : ss[i]? = some s) : ∃ ad, A = some ad ∧ w.cell? (ad.add i) = some (sv s) := by
  have hi : i < ss.length := (List.getElem?_eq_some_iff.1 hs).1
  obtain ⟨_, _, h3⟩ := h
  obtain ⟨ad, e, hc⟩ := h3 (by omega)
  obtain ⟨c, c1, c2, c3⟩ := hc i s hs
  have c2' : c = [sv s] := c2
  subst c2'
  have := c3 0 (sv s) rfl
  exact ⟨ad, e, by simpa [kS, Kd.scalar] using this⟩
end Go.Proofs.Ytjdhoipaanlipaa.G
