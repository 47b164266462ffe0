/- Rows that are lengthened by one element each, the elder slices still read (DocFresh), and the equality of operations. No walk. -/
import Derived.Test.YtjdhoipaanlipaaGPt
namespace Go.Proofs.Ytjdhoipaanlipaa.G
set_option linter.unusedVariables false
set_option linter.unusedSimpArgs false
open Go.RowKit Go.Proofs.Ytjdhoipaanlipaa.Q Go.Proofs.YtjdhoipaanlipaaW.PrintWords Go.Proofs.YtjdhoipaanlipaaW.PrintLast Go.Proofs.YtjdhoipaanlipaaW.PrintMore
theorem eqA30 (d : Nat) (w : World) (x0 y0 x1 y1 x2 y2 x3 y3 x4 y4 : Int) :
    (Op.equalIn (d + 2) 30 (.agg #[.int .i64 x0, .int .i64 x1, .int .u8 x2, .int .i64 x3, .int .i64 x4]) (.agg #[.int .i64 y0, .int .i64 y1, .int .u8 y2, .int .i64 y3, .int .i64 y4])).run Try.prog w = .ok (x0 == y0 && (x1 == y1 && (x2 == y2 && (x3 == y3 && (x4 == y4))))) w := by
  refine eqA_of Try.underlying30 (by kernel_rfl) ?_
  refine eqf_cons (by rfl) (by go_simp; rfl) (by go_simp; rfl) (by go_simp) ?_
  refine eqf_cons (by rfl) (by go_simp; rfl) (by go_simp; rfl) (by go_simp) ?_
  refine eqf_cons (by rfl) (by go_simp; rfl) (by go_simp; rfl) (by go_simp) ?_
  refine eqf_cons (by rfl) (by go_simp; rfl) (by go_simp; rfl) (by go_simp) ?_
  exact eqf_last (by rfl) (by go_simp; rfl) (by go_simp; rfl) (by go_simp)
theorem C_kept24 {W W1 : World} {ad : Addr} {n : Nat} {xs : List S24} {S : Nat → Prop} (h : Kd.C k24 W (some ad) n xs) (hk : Kept W W1 S) (hne : ¬ S ad.block) : Kd.C k24 W1 (some ad) n xs := by
  obtain ⟨h1, h2, h3⟩ := h
  refine ⟨h1, h2, fun hn => ?_⟩
  obtain ⟨ad', e, hc⟩ := h3 hn
  injection e with e
  subst e
  refine ⟨ad, rfl, fun j p hj => ?_⟩
  obtain ⟨c, c1, c2, c3⟩ := hc j p hj
  exact ⟨c, c1, c2, fun i u hu => cell_kept (c3 i u hu) hk (by rw [add_block]; exact hne)⟩
theorem replay_row (k : Nat) (A : Option Addr) (c : Nat) (ol : List S30) (xx : List S24) (mm : Int) (w : World) (hn : ol.length = 2) (hx : xx.length = 1) (hr : Kd.C k30 w A ol.length ol) (hc : ol.length ≤ c) (h : doc_Replay.f k ol = some (xx, mm, 0)) :
    Calls Try.prog 29 #[.slice A 2 c] w fun e w' => ∃ (b c' : Nat), e = .returned (.tuple #[sv (b, 1, c'), .int .i64 mm, .int .i64 0]) ∧ Row w' w.heap.size (b, 1, c') xx ∧ Below w.heap.size w w' := by
  have e := doc_Replay.calls k A c ol xx mm 0 w hr hc h
  rw [hn] at e
  refine e.mono ?_
  rintro e w' ⟨v, rfl, ho, hb⟩
  obtain ⟨⟨b, n, c'⟩, rfl, hro, _⟩ := Row.of ho (by omega)
  have : n = 1 := by have := hro.len; simp only at this; omega
  subst this
  exact ⟨b, c', rfl, hro, hb⟩
theorem fresh_cells {w : World} {base bX cX gL : Nat} {xx : List S24} {ol : List S30} (h : Row w base (bX, 1, cX) xx) (hx : xx = [⟨114, 5, 5⟩]) (hr : Kd.C k30 w (some ⟨gL, 0, none⟩) ol.length ol) (ho : ol = [⟨1, 0, 114, 5, 5⟩, ⟨0, 0, 0, 5, 6⟩]) :
    w.cell? ⟨bX, 0, none⟩ = some (.int .u8 114) ∧ (w.cell? ⟨gL, 0, none⟩ = some (.int .i64 1) ∧ w.cell? ⟨gL, 1, none⟩ = some (.int .i64 0) ∧ w.cell? ⟨gL, 2, none⟩ = some (.int .u8 114) ∧ w.cell? ⟨gL, 3, none⟩ = some (.int .i64 5) ∧ w.cell? ⟨gL, 4, none⟩ = some (.int .i64 5)) ∧
    (w.cell? ⟨gL, 5, none⟩ = some (.int .i64 0) ∧ w.cell? ⟨gL, 6, none⟩ = some (.int .i64 0) ∧ w.cell? ⟨gL, 7, none⟩ = some (.int .u8 0) ∧ w.cell? ⟨gL, 8, none⟩ = some (.int .i64 5) ∧ w.cell? ⟨gL, 9, none⟩ = some (.int .i64 6)) := by
  obtain ⟨⟨hx0, _, _⟩, _⟩ := h.elem (k := 0) (x := ⟨114, 5, 5⟩) (by rw [hx]; rfl)
  obtain ⟨ad, e, h0, h1, h2, h3, h4⟩ := C30_at hr (k := 0) (x := ⟨1, 0, 114, 5, 5⟩) (by rw [ho]; rfl)
  injection e with e
  subst e
  obtain ⟨ad, e, g0, g1, g2, g3, g4⟩ := C30_at hr (k := 1) (x := ⟨0, 0, 0, 5, 6⟩) (by rw [ho]; rfl)
  injection e with e
  subst e
  exact ⟨hx0, ⟨h0, h1, h2, h3, h4⟩, ⟨g0, g1, g2, g3, g4⟩⟩
/-- t: the row s, lengthened by one element; the elder slice is read as before. -/
structure Longer (W : World) (base : Nat) (s t : SV) (xs : List S24) (e : S24) : Prop where
  row : Row W base t (xs ++ [e])
  old : Kd.C k24 W (some ⟨s.1, 0, none⟩) s.2.1 xs
theorem Longer.kept {W W1 : World} {base : Nat} {s t : SV} {xs : List S24} {e : S24} {S : Nat → Prop} (h : Longer W base s t xs e) (hk : Kept W W1 S) (h1 : ¬ S t.1) (h2 : ¬ S s.1) : Longer W1 base s t xs e :=
  ⟨h.row.kept hk h1, C_kept24 h.old hk h2⟩
theorem Longer.below {W W1 : World} {base : Nat} {s t : SV} {xs : List S24} {e : S24} (h : Longer W base s t xs e) (hb : Below W.heap.size W W1) : Longer W1 base s t xs e :=
  h.kept (S := fun _ => False) (Kept.of_below hb _) (fun h => h) (fun h => h)
/-- What an append of one element answers of its row. -/
def Step (W W1 : World) (s t : SV) : Prop := (t.1 = s.1 ∧ W.grownBy W1 (some s.1)) ∨ (W.heap.size ≤ t.1 ∧ Below W.heap.size W W1)
theorem Step.kept {W W1 : World} {s t : SV} (h : Step W W1 s t) : Kept W W1 (fun q => q = s.1) := by
  rcases h with ⟨_, hg⟩ | ⟨_, hb⟩
  · exact Kept.of_grown hg (Kept.refl _ _) (fun k hk => .inl (Option.some.inj hk).symm)
  · exact Kept.of_below hb _
theorem Step.where_ {W W1 : World} {s t : SV} (h : Step W W1 s t) : t.1 = s.1 ∨ W.heap.size ≤ t.1 := by
  rcases h with ⟨e, _⟩ | ⟨e, _⟩
  · exact .inl e
  · exact .inr e
theorem Step.longer {W W1 : World} {base : Nat} {s t : SV} {xs : List S24} {e : S24} (h : Step W W1 s t) (r : Row W base s xs) (hrow : Row W1 base t (xs ++ [e])) : Longer W1 base s t xs e := by
  refine ⟨hrow, ?_⟩
  have hlen := r.len
  rcases h with ⟨e1, hg⟩ | ⟨e1, hb⟩
  · have hre := hrow.reads
    rw [e1] at hre
    obtain ⟨h1, h2, h3⟩ := hre
    refine ⟨hlen, by rw [List.length_append] at h2; omega, fun hn => ?_⟩
    obtain ⟨ad, ea, hc⟩ := h3 (by rw [List.length_append]; omega)
    refine ⟨ad, ea, fun q p hq => hc q p ?_⟩
    rw [List.getElem?_append_left (List.getElem?_eq_some_iff.1 hq).1]
    exact hq
  · have hre := r.reads
    rw [hlen] at hre
    exact C_grown (fun _ _ _ _ h => h) hre (grown_of_below hb none) (by simp)
theorem longer_cell {W : World} {base : Nat} {s t : SV} {xs : List S24} {e : S24} (h : Longer W base s t xs e) (hl : s.2.1 = xs.length) : ∃ (b c : Nat), t = (b, s.2.1 + 1, c) ∧ W.cell? ⟨b, s.2.1 * 3 + 1, none⟩ = some (.int .i64 e.f1) := by
  obtain ⟨⟨_, h1, _⟩, _⟩ := h.row.elem (k := s.2.1) (x := e) (by rw [hl, List.getElem?_append_right (Nat.le_refl _), Nat.sub_self]; rfl)
  have hn := h.row.len
  rw [List.length_append, ← hl] at hn
  obtain ⟨b, n, c⟩ := t
  have : n = s.2.1 + 1 := hn.symm
  subst this
  exact ⟨b, c, rfl, h1⟩
end Go.Proofs.Ytjdhoipaanlipaa.G
