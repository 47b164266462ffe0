/- The calls of the seat's functions on rows that lie in blocks of their own. No walk. -/
import Derived.Test.YtjdhoipaanlipaaGB
import Derived.Test.YtjdhoipaanlipaaGAsk
import Derived.Test.YtjdhoipaanlipaaQx5
import Derived.Test.YtjdhoipaanlipaaQx6
import Derived.Test.YtjdhoipaanlipaaQx7
import Derived.Test.YtjdhoipaanlipaaQx21
import Derived.Test.YtjdhoipaanlipaaQx39
namespace Go.Proofs.Ytjdhoipaanlipaa.G
set_option linter.unusedVariables false
set_option linter.unusedSimpArgs false
open Go.RowKit Go.Proofs.Ytjdhoipaanlipaa.Q Go.Proofs.YtjdhoipaanlipaaW.PrintWords Go.Proofs.YtjdhoipaanlipaaW.PrintLast Go.Proofs.YtjdhoipaanlipaaW.PrintMore
theorem Row.sv_eq {w : World} {b : Nat} {s : SV} {xs : List S24} (h : Row w b s xs) : sv s = .slice (some ⟨s.1, 0, none⟩) xs.length s.2.2 := by unfold sv; rw [h.len]
theorem Row.capl {w : World} {b : Nat} {s : SV} {xs : List S24} (h : Row w b s xs) : xs.length ≤ s.2.2 := by rw [h.len]; exact h.cap
theorem Row.lower {w : World} {b b' : Nat} {s : SV} {xs : List S24} (h : Row w b s xs) (hb : b' ≤ b) : Row w b' s xs := Kd.R_lower h hb
theorem Rows.below {w w1 : World} {b : Nat} {v : Value} {ss : List SV} {xss : List (List S24)} (h : Rows w b v ss xss) (hb : Below w.heap.size w w1) : Rows w1 b v ss xss :=
  ⟨Kd.R_below h.list hb, h.len, fun i s xs h1 h2 => (h.row i s xs h1 h2).below hb, h.dist⟩
/-- Worlds that an operation of a region makes. -/
theorem Row.call1 {w : World} {b : Nat} {s : SV} {xs : List S24} {f : FuncId} {Q : Ending → World → Prop} (h : Row w b s xs) (hc : Calls Try.prog f #[.slice (some ⟨s.1, 0, none⟩) xs.length s.2.2] w Q) : Calls Try.prog f #[sv s] w Q := by rw [h.sv_eq]; exact hc
theorem same_row (k : Nat) {w : World} {b1 b2 : Nat} {s t : SV} {xs ys : List S24} {r : Bool} (h1 : Row w b1 s xs) (h2 : Row w b2 t ys) (h : jotterlaw04_same.f k xs ys = some r) :
    Calls Try.prog 26 #[sv s, sv t] w fun e w' => e = .returned (.bool r) ∧ Below w.heap.size w w' := by
  rw [h1.sv_eq, h2.sv_eq]
  exact (jotterlaw04_same.calls k _ _ xs _ _ ys r w h1.reads h1.capl h2.reads h2.capl h).mono fun e w' h => ⟨h.1, h.2.below⟩
theorem equal_row (k : Nat) {w : World} {b1 b2 : Nat} {s t : SV} {xs ys : List S24} {r : Bool} (h1 : Row w b1 s xs) (h2 : Row w b2 t ys) (h : doc_Equal.f k xs ys = some r) :
    Calls Try.prog 17 #[sv s, sv t] w fun e w' => e = .returned (.bool r) ∧ Below w.heap.size w w' := by
  rw [h1.sv_eq, h2.sv_eq]
  exact (doc_Equal.calls k _ _ xs _ _ ys r w h1.reads h1.capl h2.reads h2.capl h).mono fun e w' h => ⟨h.1, h.2.below⟩
theorem text_row (k : Nat) {w : World} {b1 : Nat} {s : SV} {xs : List S24} {r : ByteArray} (h1 : Row w b1 s xs) (h : doc_Text.f k xs = some r) :
    Calls Try.prog 15 #[sv s] w fun e w' => e = .returned (.string r) ∧ Below w.heap.size w w' := by
  rw [h1.sv_eq]
  exact doc_Text.calls k _ _ xs r w h1.reads h1.capl h
theorem find_row (k : Nat) {w : World} {b1 : Nat} {s : SV} {xs : List S24} {a1 a2 r : Int} (h1 : Row w b1 s xs) (h : doc_Find.f k xs a1 a2 = some r) :
    Calls Try.prog 16 #[sv s, .int .i64 a1, .int .i64 a2] w fun e w' => e = .returned (.int .i64 r) ∧ Below w.heap.size w w' := by
  rw [h1.sv_eq]
  exact doc_Find.calls k _ _ xs a1 a2 r w h1.reads h1.capl h
theorem copied_row {w : World} {b1 : Nat} {s : SV} {xs : List S24} (h1 : Row w b1 s xs) (hl : xs.length ≤ 6000) (hp : 0 < xs.length) :
    Calls Try.prog 42 #[sv s] w fun e w' => ∃ t : SV, e = .returned (sv t) ∧ Row w' w.heap.size t xs ∧ Below w.heap.size w w' := by
  rw [h1.sv_eq]
  have hf : jotterlaw04_copied.f xs = some xs := by
    unfold jotterlaw04_copied.f
    rw [Option.bind_some, if_pos (by simp; omega), List.nil_append]
  refine (jotterlaw04_copied.calls _ _ xs xs w h1.reads h1.capl hf).mono ?_
  rintro e w' ⟨v, rfl, hr, hb⟩
  obtain ⟨t, rfl, ht, _⟩ := Row.of hr hp
  exact ⟨t, rfl, ht, hb⟩
/-- What the five calls of asked answer. -/
structure AskOK (k : Nat) (l : List S24) (a1 : Int) (x1 x2 x3 x4 x5 : List S24) (n : Int) : Prop where
  h1 : doc_Apply.f k l 1 0 ((32 + (Int.tmod a1 95)) % 256) 7 1 = some (x1, 0)
  h2 : doc_Apply.f k l 1 (l.length : Int) ((32 + (Int.tmod a1 95)) % 256) 7 1 = some (x2, 0)
  h3 : doc_Apply.f k l 2 0 0 7 1 = some (x3, 0)
  h4 : doc_Apply.f k l 0 0 0 7 1 = some (x4, 0)
  h5 : doc_Replay.f k (([(⟨1, 0, (32 + (Int.tmod a1 95)) % 256, 7, 1⟩ : S30), (⟨1, 1, 114, 7, 2⟩ : S30)] : List (S30))) = some (x5, n, 0)
  hp : 0 < x5.length
theorem asked_row (k : Nat) {w : World} {b1 : Nat} {s : SV} {xs : List S24} {a1 : Int} {x1 x2 x3 x4 x5 : List S24} {n : Int} (h1 : Row w b1 s xs) (h : AskOK k xs a1 x1 x2 x3 x4 x5 n) :
    Calls Try.prog 43 #[sv s, .int .u8 a1] w fun e w' => ∃ (A : Option Addr) (c : Nat) (ss : List SV), e = .returned (.slice A 5 c) ∧ Rows w' w.heap.size (.slice A 5 c) ss [x1, x2, x3, x4, x5] ∧ Below w.heap.size w w' := by
  rw [h1.sv_eq]
  refine (asked_calls k _ _ xs a1 x1 x2 x3 x4 x5 n w h1.reads h1.capl h.h1 h.h2 h.h3 h.h4 h.h5 h.hp).mono ?_
  rintro e w' ⟨v, ss, rfl, hr, hb⟩
  obtain ⟨A, c, rfl⟩ := Kd.R_slice hr.list
  have hl : ss.length = 5 := hr.len
  rw [hl] at hr ⊢
  exact ⟨A, c, ss, rfl, hr, hb⟩
/-- Row i of a list of rows. -/
theorem Rows.at_ {w : World} {b i : Nat} {A : Option Addr} {n c : Nat} {ss : List SV} {xss : List (List S24)} {xs : List S24} (h : Rows w b (.slice A n c) ss xss) (hx : xss[i]? = some xs) :
    ∃ (s : SV) (ad : Addr), ss[i]? = some s ∧ A = some ad ∧ w.cell? (ad.add i) = some (sv s) ∧ Row w b s xs := by
  have hi : i < ss.length := by rw [h.len]; exact (List.getElem?_eq_some_iff.1 hx).1
  have hs : ss[i]? = some ss[i] := List.getElem?_eq_getElem hi
  have hr := (Kd.R_reads' h.list)
  have hc := hr.2.2
  obtain ⟨ad, e, hc⟩ := outer_at hc hs
  exact ⟨ss[i], ad, hs, e, hc, h.row i _ xs hs hx⟩
theorem Rows.ge {w : World} {b : Nat} {v : Value} {ss : List SV} {xss : List (List S24)} (h : Rows w b v ss xss) : ∀ s ∈ ss, b ≤ s.1 ∧ s.1 < w.heap.size := by
  intro s hs
  obtain ⟨i, hi, rfl⟩ := List.mem_iff_getElem.1 hs
  have hx : xss[i]? = some (xss[i]'(by rw [← h.len]; exact hi)) := List.getElem?_eq_getElem _
  have hr := h.row i _ _ (List.getElem?_eq_getElem hi) hx
  exact ⟨hr.ge, hr.lt⟩
theorem row_ne {W : World} {b b' : Nat} {v : Value} {ok : Nat → Prop} {ss : List SV} {s : SV} {xs : List S24} (h : Kd.R kS 22 W b ok v ss) (r : Row W b' s xs) : some s.1 ≠ v.ownBlock := by
  obtain ⟨cells, hc⟩ := Kd.R_typed r s.1 rfl
  exact Kd.R_ne h hc (by decide)
/-- Rows, each in a block of its own (told without their list). -/
structure RowsIn (w : World) (base : Nat) (ss : List SV) (xss : List (List S24)) : Prop where
  len : ss.length = xss.length
  row : ∀ (i : Nat) (s : SV) (xs : List S24), ss[i]? = some s → xss[i]? = some xs → Row w base s xs
  dist : ∀ (i j : Nat) (s t : SV), ss[i]? = some s → ss[j]? = some t → s.1 = t.1 → i = j
theorem Rows.in_ {W : World} {b : Nat} {v : Value} {ss : List SV} {xss : List (List S24)} (h : Rows W b v ss xss) : RowsIn W b ss xss := ⟨h.len, h.row, h.dist⟩
theorem RowsIn.below {w w1 : World} {b : Nat} {ss : List SV} {xss : List (List S24)} (h : RowsIn w b ss xss) (hb : Below w.heap.size w w1) : RowsIn w1 b ss xss :=
  ⟨h.len, fun i s xs h1 h2 => (h.row i s xs h1 h2).below hb, h.dist⟩
/-- Rows lie in other blocks than lists of rows. -/
theorem RowsIn.over {W w1 : World} {b b' : Nat} {v : Value} {ok : Nat → Prop} {ss ts : List SV} {xss : List (List S24)} (h : RowsIn W b ss xss) (hv : Kd.R kS 22 W b' ok v ts) (hg : W.grownBy w1 v.ownBlock) : RowsIn w1 b ss xss :=
  ⟨h.len, fun i s xs h1 h2 => (h.row i s xs h1 h2).grown hg (row_ne hv (h.row i s xs h1 h2)), h.dist⟩
theorem RowsIn.ge {w : World} {b : Nat} {ss : List SV} {xss : List (List S24)} (h : RowsIn w b ss xss) : ∀ s ∈ ss, b ≤ s.1 ∧ s.1 < w.heap.size := by
  intro s hs
  obtain ⟨i, hi, rfl⟩ := List.mem_iff_getElem.1 hs
  have hx : xss[i]? = some (xss[i]'(by rw [← h.len]; exact hi)) := List.getElem?_eq_getElem _
  have hr := h.row i _ _ (List.getElem?_eq_getElem hi) hx
  exact ⟨hr.ge, hr.lt⟩
/-- Two lists of rows, one behind the other: what grownElems asks of them. -/
theorem grown_row {w0 W : World} {b1 b2 c : Nat} {A : Option Addr} {n : Nat} {ss ts : List SV} {xss yss : List (List S24)} (hB : Below w0.heap.size w0 W) (hx : RowsIn W b1 ss xss) (hy : RowsIn W b2 ts yss)
    (hr : Kd.R kS 22 W w0.heap.size (fun _ => True) (.slice A n c) (ss ++ ts)) (h0 : w0.heap.size ≤ b1) (h1 : w0.heap.size ≤ b2) (h2 : ∀ s ∈ ss, s.1 < b2)
    (hlx : ∀ z ∈ xss, z.length ≤ 4990) (hly : ∀ z ∈ yss, z.length ≤ 4990) (hs : xss.length + yss.length ≤ 1000) (hp0 : 0 < xss.length) :
    Calls Try.prog 44 #[.slice A n c] W fun e w' => e = .returned (.bool true) ∧ Below w0.heap.size w0 w' ∧ Kept W w' (fun k => ∃ s ∈ ss ++ ts, k = s.1) := by
  have hre := Kd.R_reads' hr
  have hn : n = (ss ++ ts).length := hre.1
  subst hn
  have rows : ∀ (j : Nat) (s : SV), (ss ++ ts)[j]? = some s → ∃ xs, (xss ++ yss)[j]? = some xs ∧ Row W w0.heap.size s xs ∧ xs.length ≤ 4990 := by
    intro j s hj
    by_cases hjs : j < ss.length
    · rw [List.getElem?_append_left hjs] at hj
      have hx' : xss[j]? = some (xss[j]'(by rw [← hx.len]; exact hjs)) := List.getElem?_eq_getElem _
      refine ⟨_, by rw [List.getElem?_append_left (by rw [← hx.len]; exact hjs)]; exact hx', (hx.row j s _ hj hx').lower h0, hlx _ (List.getElem_mem _)⟩
    · rw [List.getElem?_append_right (by omega)] at hj
      have hjl := (List.getElem?_eq_some_iff.1 hj).1
      have hy' : yss[j - ss.length]? = some (yss[j - ss.length]'(by rw [← hy.len]; exact hjl)) := List.getElem?_eq_getElem _
      refine ⟨_, by rw [List.getElem?_append_right (by rw [← hx.len]; omega), ← hx.len]; exact hy', (hy.row _ s _ hj hy').lower h1, hly _ (List.getElem_mem _)⟩
  have mems : ∀ s ∈ ss ++ ts, ∃ xs, Row W w0.heap.size s xs ∧ xs.length ≤ 4990 := by
    intro s hs
    obtain ⟨j, hj, rfl⟩ := List.mem_iff_getElem.1 hs
    obtain ⟨xs, _, h⟩ := rows j _ (List.getElem?_eq_getElem hj)
    exact ⟨xs, h⟩
  have own : ∀ ad, A = some ad → 0 < (ss ++ ts).length → (Value.slice A (ss ++ ts).length c).ownBlock = some ad.block := by
    intro ad e hp
    obtain ⟨g, cap, e2, _⟩ := Kd.R_form hr hp
    injection e2 with e3 _ _
    rw [e] at e3
    injection e3 with e3
    subst e3
    subst e
    rfl
  have hst : St1 w0.heap.size A (ss ++ ts) 0 0 W := by
    refine ⟨hre.2.2, fun j => (xss ++ yss).getD j [], fun j s hj => ?_, fun j s _ m hm => by omega⟩
    obtain ⟨xs, e, h, _⟩ := rows j s hj
    have : (xss ++ yss).getD j [] = xs := by rw [List.getD_eq_getElem?_getD, e]; rfl
    dsimp only
    rw [this]
    exact h
  have hold : Old W A (ss ++ ts) := by
    refine ⟨⟨fun i j s t hi hj e => ?_, fun ad e s hs => ?_⟩, fun s hs => ?_, fun ad e => ?_⟩
    · by_cases his : i < ss.length <;> by_cases hjs : j < ss.length
      · rw [List.getElem?_append_left his] at hi
        rw [List.getElem?_append_left hjs] at hj
        exact hx.dist i j s t hi hj e
      · rw [List.getElem?_append_left his] at hi
        rw [List.getElem?_append_right (by omega)] at hj
        have a := h2 s (List.mem_of_getElem? hi)
        have b := (hy.ge t (List.mem_of_getElem? hj)).1
        omega
      · rw [List.getElem?_append_right (by omega)] at hi
        rw [List.getElem?_append_left hjs] at hj
        have a := h2 t (List.mem_of_getElem? hj)
        have b := (hy.ge s (List.mem_of_getElem? hi)).1
        omega
      · rw [List.getElem?_append_right (by omega)] at hi hj
        have := hy.dist _ _ s t hi hj e
        omega
    · intro he
      obtain ⟨xs, h, _⟩ := mems s hs
      obtain ⟨cells, hc⟩ := Kd.R_typed h s.1 rfl
      refine Kd.R_ne hr hc (by decide) ?_
      rw [own ad e (List.length_pos_of_mem hs), he]
    · obtain ⟨xs, h, _⟩ := mems s hs
      exact h.lt
    · exact Kd.R_lt hr _ (own ad e (by rw [List.length_append, hx.len]; omega))
  refine grown_calls w0 W A c (ss ++ ts) hB ?_ ?_ hre.2.1 hold hst
  · rw [List.length_append, hx.len, hy.len]; exact hs
  · intro s hs
    obtain ⟨xs, h, hl⟩ := mems s hs
    rw [← h.len]; omega
end Go.Proofs.Ytjdhoipaanlipaa.G
