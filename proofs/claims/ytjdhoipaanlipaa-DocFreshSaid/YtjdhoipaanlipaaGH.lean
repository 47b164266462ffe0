/- Rows that are filled, kept in a list, and lengthened by one element each: what is known of them (apart). No walk. -/
import Derived.Test.YtjdhoipaanlipaaGF
import Derived.Test.YtjdhoipaanlipaaQx35
import Derived.Test.YtjdhoipaanlipaaQx36
namespace Go.Proofs.Ytjdhoipaanlipaa.G
set_option linter.unusedVariables false
set_option linter.unusedSimpArgs false
open Go.RowKit Go.Proofs.Ytjdhoipaanlipaa.Q Go.Proofs.YtjdhoipaanlipaaW.PrintWords Go.Proofs.YtjdhoipaanlipaaW.PrintLast Go.Proofs.YtjdhoipaanlipaaW.PrintMore
theorem fill_row (k : Nat) {w0 w : World} {s : SV} {xs r : List S24} {m : Int} (hB : Below w0.heap.size w0 w) (h1 : Row w w0.heap.size s xs) (h : jotterlaw04_fill.f k xs m = some r) :
    Calls Try.prog 34 #[sv s, .int .i64 m] w fun e w' => e = .returned (.tuple #[]) ∧ Row w' w0.heap.size s r ∧ Below w0.heap.size w0 w' ∧ Kept w w' (fun q => q = s.1) :=
  (jotterlaw04_fill.calls k (fun q => q = s.1) (sv s) xs m r w0 w hB h1 h).mono fun e w' h => ⟨h.1, Row.tight h.2.1, h.2.2.1, h.2.2.2⟩
theorem full_row (k : Nat) {w : World} {b : Nat} {s : SV} {xs : List S24} {m : Int} {r : Bool} (h1 : Row w b s xs) (h : jotterlaw04_full.f k xs m = some r) :
    Calls Try.prog 38 #[sv s, .int .i64 m] w fun e w' => e = .returned (.bool r) ∧ Below w.heap.size w w' := by
  rw [h1.sv_eq]
  exact (jotterlaw04_full.calls k _ _ xs m r w h1.reads h1.capl h).mono fun e w' h => ⟨h.1, h.2.below⟩
/-- A row that reads as a list, its block perhaps written behind it. -/
theorem full_read (k : Nat) {w : World} {s : SV} {xs : List S24} {m : Int} {r : Bool} (h1 : Kd.C k24 w (some ⟨s.1, 0, none⟩) s.2.1 xs) (hl : s.2.1 ≤ s.2.2) (h : jotterlaw04_full.f k xs m = some r) :
    Calls Try.prog 38 #[sv s, .int .i64 m] w fun e w' => e = .returned (.bool r) ∧ Below w.heap.size w w' := by
  have e : xs.length = s.2.1 := h1.1
  unfold sv
  rw [← e] at h1 hl ⊢
  exact (jotterlaw04_full.calls k _ _ xs m r w h1 hl h).mono fun e w' h => ⟨h.1, h.2.below⟩
theorem RowsIn.kept {w w' : World} {b : Nat} {ss : List SV} {xss : List (List S24)} {S : Nat → Prop} (h : RowsIn w b ss xss) (hk : Kept w w' S) (hne : ∀ s ∈ ss, ¬ S s.1) : RowsIn w' b ss xss :=
  ⟨h.len, fun i s xs h1 h2 => (h.row i s xs h1 h2).kept hk (hne s (List.mem_of_getElem? h1)), h.dist⟩
theorem RowsIn.nil (w : World) (b : Nat) : RowsIn w b [] [] := ⟨rfl, by simp, by simp⟩
theorem RowsIn.push {w : World} {b : Nat} {ss : List SV} {xss : List (List S24)} {s : SV} {xs : List S24} (h : RowsIn w b ss xss) (r : Row w b s xs) (hne : ∀ t ∈ ss, t.1 ≠ s.1) : RowsIn w b (ss ++ [s]) (xss ++ [xs]) := by
  have hl := h.len
  have cut : ∀ {j : Nat} {u : SV}, (ss ++ [s])[j]? = some u → ss[j]? = some u ∨ (j = ss.length ∧ u = s) := by
    intro j u hu
    by_cases hj : j < ss.length
    · rw [List.getElem?_append_left hj] at hu; exact .inl hu
    · have hlt : j < (ss ++ [s]).length := (List.getElem?_eq_some_iff.1 hu).1
      simp at hlt
      rw [List.getElem?_append_right (by omega), show j - ss.length = 0 by omega] at hu
      exact .inr ⟨by omega, (Option.some.inj hu).symm⟩
  refine ⟨by simp; omega, fun i t ys h1 h2 => ?_, fun i j t u hi hj e => ?_⟩
  · rcases cut h1 with h1 | ⟨rfl, rfl⟩
    · rw [List.getElem?_append_left (by rw [← hl]; exact (List.getElem?_eq_some_iff.1 h1).1)] at h2
      exact h.row i t ys h1 h2
    · rw [List.getElem?_append_right (by omega), show ss.length - xss.length = 0 by omega] at h2
      have h2 : xs = ys := Option.some.inj h2
      rw [← h2]; exact r
  · rcases cut hi with g1 | ⟨ei, et⟩ <;> rcases cut hj with g2 | ⟨ej, eu⟩
    · exact h.dist i j t u g1 g2 e
    · exact absurd (by rw [e, eu]) (hne t (List.mem_of_getElem? g1))
    · exact absurd (by rw [← e, et]) (hne u (List.mem_of_getElem? g2))
    · rw [ei, ej]
/-- The second loop: the rows of ms are those of ls, lengthened. N: where the second loop began. -/
structure Two (N base : Nat) (F G : Nat → List S24) (ls ms : List SV) (W : World) : Prop where
  done : ∀ (j : Nat) (t s : SV), ms[j]? = some t → ls[j]? = some s → Row W base t (F j ++ G j) ∧ Kd.C k24 W (some ⟨s.1, 0, none⟩) s.2.1 (F j)
  todo : ∀ (j : Nat) (s : SV), ms.length ≤ j → ls[j]? = some s → Row W base s (F j)
  where_ : ∀ (j : Nat) (t s : SV), ms[j]? = some t → ls[j]? = some s → t.1 = s.1 ∨ N ≤ t.1
  len : ms.length ≤ ls.length
theorem Two.over {N base b' : Nat} {F G : Nat → List S24} {ls ms : List SV} {W W1 : World} {v : Value} {ok : Nat → Prop} {ts : List SV} (h : Two N base F G ls ms W) (hv : Kd.R kS 22 W b' ok v ts) (hg : W.grownBy W1 v.ownBlock)
    (hN : ∀ q, v.ownBlock = some q → N ≤ q) (hls : ∀ s ∈ ls, s.1 < N) : Two N base F G ls ms W1 := by
  refine ⟨fun j t s ht hs => ⟨((h.done j t s ht hs).1).grown hg (row_ne hv (h.done j t s ht hs).1), ?_⟩, fun j s hj hs => (h.todo j s hj hs).grown hg (row_ne hv (h.todo j s hj hs)), h.where_, h.len⟩
  refine C_grown (fun _ _ _ _ h => h) (h.done j t s ht hs).2 hg (fun ad e _ he => ?_)
  injection e with e
  subst e
  have h1 : N ≤ s.1 := hN _ he.symm
  have := hls s (List.mem_of_getElem? hs)
  omega
theorem Two.push {N base i : Nat} {F G : Nat → List S24} {ls ms : List SV} {W W1 : World} {s t : SV} (h : Two N base F G ls ms W) (hi : ms.length = i) (hs : ls[i]? = some s) (hN : N ≤ W.heap.size) (hls : ∀ s ∈ ls, s.1 < N)
    (hd : ∀ (i j : Nat) (s t : SV), ls[i]? = some s → ls[j]? = some t → s.1 = t.1 → i = j)
    (hrow : Row W1 base t (F i ++ G i)) (hg : (t.1 = s.1 ∧ W.grownBy W1 (some s.1)) ∨ (W.heap.size ≤ t.1 ∧ Below W.heap.size W W1)) : Two N base F G ls (ms ++ [t]) W1 := by
  have hil : i < ls.length := (List.getElem?_eq_some_iff.1 hs).1
  have old := h.todo i s (by omega) hs
  have cut : ∀ {j : Nat} {u : SV}, (ms ++ [t])[j]? = some u → ms[j]? = some u ∨ (j = i ∧ u = t) := by
    intro j u hu
    by_cases hj : j < ms.length
    · rw [List.getElem?_append_left hj] at hu; exact .inl hu
    · have hlt : j < (ms ++ [t]).length := (List.getElem?_eq_some_iff.1 hu).1
      simp at hlt
      rw [List.getElem?_append_right (by omega), show j - ms.length = 0 by omega] at hu
      exact .inr ⟨by omega, (Option.some.inj hu).symm⟩
  have hw : t.1 = s.1 ∨ N ≤ t.1 := by
    rcases hg with ⟨e, _⟩ | ⟨e, _⟩
    · exact .inl e
    · exact .inr (by omega)
  have hdm : ∀ u ∈ ms, u.1 ≠ s.1 := by
    intro u hu e
    obtain ⟨j, hj, rfl⟩ := List.mem_iff_getElem.1 hu
    have hjl : j < ls.length := by have := h.len; omega
    have hsN := hls s (List.mem_of_getElem? hs)
    rcases h.where_ j ms[j] ls[j] (List.getElem?_eq_getElem hj) (List.getElem?_eq_getElem hjl) with h1 | h1
    · have := hd j i ls[j] s (List.getElem?_eq_getElem hjl) hs (by rw [← h1, e])
      omega
    · omega
  refine ⟨fun j u s' hu hs' => ?_, fun j s' hj hs' => ?_, fun j u s' hu hs' => ?_, by simp; omega⟩
  · rcases cut hu with hu | ⟨rfl, rfl⟩
    · obtain ⟨h1, h2⟩ := h.done j u s' hu hs'
      have hji : j < i := by rw [← hi]; exact (List.getElem?_eq_some_iff.1 hu).1
      rcases hg with ⟨e, hg⟩ | ⟨e, hb⟩
      · refine ⟨h1.grown hg (fun e3 => hdm u (List.mem_of_getElem? hu) (Option.some.inj e3)), C_grown (fun _ _ _ _ h => h) h2 hg (fun ad ea _ he => ?_)⟩
        injection ea with ea
        subst ea
        have h3 : s'.1 = s.1 := Option.some.inj he
        have := hd j i s' s hs' hs h3
        omega
      · have hg0 := grown_of_below hb none
        exact ⟨h1.grown hg0 (by simp), C_grown (fun _ _ _ _ h => h) h2 hg0 (by simp)⟩
    · rw [hs] at hs'; injection hs' with hs'; subst hs'
      refine ⟨hrow, ?_⟩
      have hlen := old.len
      rcases hg with ⟨e, hg⟩ | ⟨e, hb⟩
      · have hre := hrow.reads
        rw [e] at hre
        obtain ⟨h1, h2, h3⟩ := hre
        refine ⟨hlen, by rw [List.length_append] at h2; omega, fun hn => ?_⟩
        obtain ⟨ad, ea, hc⟩ := h3 (by rw [List.length_append]; omega)
        refine ⟨ad, ea, fun q p hq => hc q p ?_⟩
        rw [List.getElem?_append_left (List.getElem?_eq_some_iff.1 hq).1]
        exact hq
      · have hre := old.reads
        rw [hlen] at hre
        exact C_grown (fun _ _ _ _ h => h) hre (grown_of_below hb none) (by simp)
  · have hj : i < j := by simp at hj; omega
    have hr := h.todo j s' (by omega) hs'
    rcases hg with ⟨e, hg⟩ | ⟨e, hb⟩
    · exact hr.grown hg (fun e3 => by have h3 : s'.1 = s.1 := Option.some.inj e3; have := hd j i s' s hs' hs h3; omega)
    · exact hr.grown (grown_of_below hb none) (by simp)
  · rcases cut hu with hu | ⟨rfl, rfl⟩
    · exact h.where_ j u s' hu hs'
    · rw [hs] at hs'; injection hs' with hs'; subst hs'
      exact hw
end Go.Proofs.Ytjdhoipaanlipaa.G
