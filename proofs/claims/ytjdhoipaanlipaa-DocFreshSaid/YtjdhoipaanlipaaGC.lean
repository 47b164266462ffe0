/- Rows of elements that are appended to, each row's longer one kept in a list: what is known of them, and how an append moves it. No walk. -/
import Derived.Test.YtjdhoipaanlipaaGA
namespace Go.Proofs.Ytjdhoipaanlipaa.G
set_option linter.unusedVariables false
set_option linter.unusedSimpArgs false
open Go.RowKit Go.Proofs.Ytjdhoipaanlipaa.Q Go.Proofs.YtjdhoipaanlipaaW.PrintWords
def mk2 (j m : Nat) : S24 := ⟨0, -1000 - (j : Int), m⟩
def m1 (j n : Nat) : List S24 := (List.range n).map (mk1 j)
def m2 (j n : Nat) : List S24 := (List.range n).map (mk2 j)
theorem m1_length (j n : Nat) : (m1 j n).length = n := by simp [m1]
theorem m2_length (j n : Nat) : (m2 j n).length = n := by simp [m2]
theorem m2_succ (j n : Nat) : m2 j (n + 1) = m2 j n ++ [mk2 j n] := by simp [m2, List.range_succ]
/-- A row that isn't empty has a block. -/
theorem Row.of {w : World} {base : Nat} {ok : Nat → Prop} {v : Value} {xs : List S24} (h : Kd.R k24 24 w base ok v xs) (hp : 0 < xs.length) : ∃ t : SV, v = sv t ∧ Row w base t xs ∧ ok t.1 := by
  obtain ⟨g, cap, rfl, hb, hl, _⟩ := Kd.R_form h hp
  exact ⟨(g, xs.length, cap), rfl, Kd.R_mono (Kd.R_tight (v := .slice (some ⟨g, 0, none⟩) xs.length cap) rfl h) (fun k hk => by have : some k = some g := hk; injection this), h.1 g rfl⟩
/-- Where the lists' slices lie. w: the world at the beginning. -/
structure Old (w : World) (A : Option Addr) (ss : List SV) : Prop where
  fam : Fam A ss
  rows : ∀ s ∈ ss, s.1 < w.heap.size
  list : ∀ ad, A = some ad → ad.block < w.heap.size
/-- The rows from m on are as the first loop left them; those of gs are lengthened. -/
structure Core (w : World) (base : Nat) (A : Option Addr) (ss gs : List SV) (m : Nat) (W : World) : Prop where
  outer : Kd.C kS W A ss.length ss
  done : ∀ (j : Nat) (t s : SV), gs[j]? = some t → ss[j]? = some s → Row W base t (m1 j s.2.1 ++ m2 j 64) ∧ Kd.C k24 W (some ⟨s.1, 0, none⟩) s.2.1 (m1 j s.2.1)
  todo : ∀ (j : Nat) (s : SV), m ≤ j → ss[j]? = some s → Row W base s (m1 j s.2.1)
  where_ : ∀ (j : Nat) (t s : SV), gs[j]? = some t → ss[j]? = some s → t.1 = s.1 ∨ w.heap.size ≤ t.1
  dist : ∀ (j j' : Nat) (t t' : SV), gs[j]? = some t → gs[j']? = some t' → t.1 = t'.1 → j = j'
  len : gs.length ≤ ss.length
theorem Core.grown {w W W1 : World} {base : Nat} {A : Option Addr} {ss gs : List SV} {m : Nat} (h : Core w base A ss gs m W) {row : Option Nat} (hg : W.grownBy W1 row)
    (hA : ∀ ad, A = some ad → some ad.block ≠ row) (hgs : ∀ t ∈ gs, some t.1 ≠ row) (hss : ∀ (j : Nat) (s : SV), ss[j]? = some s → m ≤ j ∨ j < gs.length → some s.1 ≠ row) : Core w base A ss gs m W1 := by
  refine ⟨C_grown kS_K h.outer hg (fun ad e _ => hA ad e), fun j t s ht hs => ⟨((h.done j t s ht hs).1).grown hg (hgs t (List.mem_of_getElem? ht)), ?_⟩, fun j s hj hs => (h.todo j s hj hs).grown hg (hss j s hs (.inl hj)), h.where_, h.dist, h.len⟩
  refine C_grown (fun _ _ _ _ h => h) (h.done j t s ht hs).2 hg (fun ad e _ => ?_)
  injection e with e
  subst e
  exact hss j s hs (.inr (List.getElem?_eq_some_iff.1 ht).1)
/-- The row i, lengthened k times. -/
structure Cur (w : World) (base : Nat) (ss gs : List SV) (s t : SV) (i k : Nat) (W : World) : Prop where
  row : Row W base t (m1 i s.2.1 ++ m2 i k)
  old : Kd.C k24 W (some ⟨s.1, 0, none⟩) s.2.1 (m1 i s.2.1)
  where_ : t.1 = s.1 ∨ w.heap.size ≤ t.1
  apart : ∀ t' ∈ gs, t'.1 ≠ t.1
theorem Cur.len {w : World} {base : Nat} {ss gs : List SV} {s t : SV} {i k : Nat} {W : World} (h : Cur w base ss gs s t i k W) : t.2.1 = s.2.1 + k := by
  have := h.row.len
  rw [List.length_append, m1_length, m2_length] at this
  exact this.symm
/-- Before the first append. -/
theorem Core.cur {w W : World} {base : Nat} {A : Option Addr} {ss gs : List SV} {i : Nat} {s : SV} (h : Core w base A ss gs i W) (O : Old w A ss) (hi : gs.length = i) (hs : ss[i]? = some s) : Core w base A ss gs (i + 1) W ∧ Cur w base ss gs s s i 0 W := by
  have hr := h.todo i s (Nat.le_refl _) hs
  have hread := hr.reads
  rw [m1_length] at hread
  refine ⟨⟨h.outer, h.done, fun j s hj => h.todo j s (by omega), h.where_, h.dist, h.len⟩, ⟨by simpa [m2] using hr, hread, .inl rfl, fun t ht e => ?_⟩⟩
  obtain ⟨j, hj, rfl⟩ := List.mem_iff_getElem.1 ht
  have hjs : j < ss.length := by have := h.len; omega
  rcases h.where_ j gs[j] ss[j] (List.getElem?_eq_getElem hj) (List.getElem?_eq_getElem hjs) with h1 | h1
  · have := O.fam.dist j i ss[j] s (List.getElem?_eq_getElem hjs) hs (by rw [← h1, e])
    omega
  · have := O.rows s (List.mem_of_getElem? hs)
    omega
/-- append of one element to a row of the call's own: in its place, or in a new block, and then nothing old is written. -/
theorem row_append {ops : Array Oper} {rest : List Oper} {o : Oper} {a : Act} {Q : Exit → Act → World → Prop} {W : World} (base : Nat) (hgd : o.guard = none) (s x : Operand) (ho : o.op = .call { callee := .builtin .append, args := #[s, x], argTypes := #[22, 22] })
    (t : SV) (xs : List S24) (p : S24) (hs : a.eval s = sv t) (hx : a.eval x = .slice (some ⟨W.heap.size, 0, none⟩) 1 1) (HR : Row W base t xs) (hbase : base ≤ W.heap.size) (hl : t.2.1 ≤ 6000)
    (h : ∀ t' w1, Row w1 base t' (xs ++ [p]) → ((t'.1 = t.1 ∧ W.grownBy w1 (some t.1)) ∨ (W.heap.size ≤ t'.1 ∧ Below W.heap.size W w1)) → wpList Try.prog ops Q rest (a.put o.dst (sv t')) w1) :
    wpList Try.prog ops Q (o :: rest) a (W.alloc (.cells #[.int .u8 p.f0, .int .i64 p.f1, .int .i64 p.f2] 24)) := by
  have hlen := HR.len
  have HR0 := HR
  obtain ⟨h0, inner, hown, hr⟩ := HR
  obtain ⟨i0, hi, hzz⟩ := Option.map_eq_some_iff.1 info24
  simp only [Prod.mk.injEq] at hzz
  obtain ⟨hz0, hz1, hz2⟩ := hzz
  have hnews : ∀ j u, [Value.int .u8 p.f0, .int .i64 p.f1, .int .i64 p.f2][j]? = some u → (W.alloc (.cells #[.int .u8 p.f0, .int .i64 p.f1, .int .i64 p.f2] 24)).cell? ((⟨W.heap.size, 0, none⟩ : Addr).add j) = some u :=
    by simpa using World.news_of_block (cs := #[Value.int .u8 p.f0, .int .i64 p.f1, .int .i64 p.f2]) (t := 24) (fr := (0, 0)) (heap_alloc_new W (.cells #[Value.int .u8 p.f0, .int .i64 p.f1, .int .i64 p.f2] 24))
  have h1 : ∀ u ∈ [Value.int .u8 p.f0, .int .i64 p.f1, .int .i64 p.f2], u.oneCell' = true := by
    intro u hu
    simp at hu
    rcases hu with rfl | rfl | rfl <;> rfl
  have hown' := hown.alloc (.cells #[.int .u8 p.f0, .int .i64 p.f1, .int .i64 p.f2] 24)
  refine wpList_plain hgd fun K hK => ?_
  obtain ⟨v', w', hrun, g2, g3, _, g5⟩ := run_append_own_at (P := Try.prog) (W.alloc (.cells #[.int .u8 p.f0, .int .i64 p.f1, .int .i64 p.f2] 24)) base 22 o.type 24 i0 (.agg #[(.int .u8 0), (.int .i64 0), (.int .i64 0)]) 3 24 Try.underlying22 hi hz0 hz1 hz2 rfl (by decide) (sv t) xs.length inner hown' ⟨W.heap.size, 0, none⟩ 1 1 _ rfl hnews h1 (by simp only [maxLen]; omega) (by omega) (by simp; omega)
  have hg : W.grownBy w' (some t.1) := World.grownBy.trans (World.grownBy_alloc W _ _) g3
  have hR : Kd.R k24 24 w' base (fun q => q = t.1 ∨ W.heap.size ≤ q) v' (xs ++ [p]) := by
    refine Kd.R_appended (v := sv t) (okp := fun _ => False) (fun k hk => .inl ?_) (hr.imp_ (fun _ _ hp => k24.M_mono (fun k hk => ⟨.inl hk.1, hk.2⟩) hp)) (k24_mkM W base _ p) (fun _ hk => hk.elim) (fun k hk => .inr hk) g2 (show W.grownBy w' (sv t).ownBlock from hg) ?_
    · have : t.1 = k := by simpa [sv, Value.ownBlock] using hk
      exact this.symm
    · rcases g5 with e | e
      · exact .inl e
      · exact .inr ⟨_, e, by simp⟩
  obtain ⟨t', rfl, hrow, hok⟩ := Row.of hR (by simp)
  have key : (t'.1 = t.1 ∧ W.grownBy w' (some t.1)) ∨ (W.heap.size ≤ t'.1 ∧ Below W.heap.size W w') := by
    rcases hown'.2 with ⟨e, _⟩ | ⟨g, cap, cur, e, hbg, hgb, hnc, hcm, hcs, htake⟩
    · simp [sv] at e
    · have e1 : t.1 = g ∧ t.2.1 = xs.length ∧ t.2.2 = cap := by simpa [sv] using e
      obtain ⟨rfl, e2, rfl⟩ := e1
      have et : sv t = .slice (some ⟨t.1, 0, none⟩) xs.length t.2.2 := by unfold sv; rw [e2]
      rw [et] at hrun
      by_cases hroom : xs.length + 1 ≤ t.2.2
      · have hfit : xs.length * i0.size + [Value.int .u8 p.f0, .int .i64 p.f1, .int .i64 p.f2].length ≤ cur.size := by
          have hk : k24.sz = 3 := rfl
          rw [hcs, hz1, hk]
          show xs.length * 3 + 3 ≤ _
          omega
        have hr2 := run_append_room (P := Try.prog) (W.alloc (.cells #[.int .u8 p.f0, .int .i64 p.f1, .int .i64 p.f2] 24)) 22 o.type 24 i0 Try.underlying22 hi t.1 xs.length t.2.2 cur hgb ⟨W.heap.size, 0, none⟩ 1 1 _ (by rw [hz1]; rfl) hnews h1 hroom hfit
        rw [hr2] at hrun
        injection hrun with ev ew
        have h6 : some t.1 = some t'.1 := congrArg Value.ownBlock ev
        exact .inl ⟨(Option.some.inj h6).symm, hg⟩
      · have holds : ∀ j u, inner[j]? = some u → (W.alloc (.cells #[.int .u8 p.f0, .int .i64 p.f1, .int .i64 p.f2] 24)).cell? ((⟨t.1, 0, none⟩ : Addr).add j) = some u := hown'.cells (g := t.1) rfl
        have hr2 := run_append_grow (P := Try.prog) (W.alloc (.cells #[.int .u8 p.f0, .int .i64 p.f1, .int .i64 p.f2] 24)) 22 o.type 24 i0 _ Try.underlying22 hi hz0 ⟨t.1, 0, none⟩ xs.length t.2.2 inner (by rw [hown'.1, hz1]; rfl) holds ⟨W.heap.size, 0, none⟩ 1 1 _ (by rw [hz1]; rfl) hnews (by omega) (by omega) (growslice_fits (by omega) (by rw [hz2]; omega))
        rw [hr2] at hrun
        injection hrun with ev ew
        refine .inr ⟨?_, ?_⟩
        · have h6 : some (W.alloc (.cells #[.int .u8 p.f0, .int .i64 p.f1, .int .i64 p.f2] 24)).heap.size = some t'.1 := congrArg Value.ownBlock ev
          have h7 := Option.some.inj h6
          simp at h7
          omega
        · rw [← ew]
          exact below_alloc (below_drew (below_alloc (Below.refl _ _) _)) _
  unfold Oper.wp execOp
  simp only [ho, resolve, invoke, builtin, Sem.run_bind, Sem.run_pure, Result.andThen_ok, List.map_toArray, List.map_cons, List.map_nil, hs, hx, hrun]
  exact hK _ _ (h t' w' hrow key)
/-- An append to the row i. -/
theorem Cur.append {w W W1 : World} {base : Nat} {A : Option Addr} {ss gs : List SV} {i k : Nat} {s t t' : SV} (O : Old w A ss) (hw : w.heap.size ≤ W.heap.size) (hi : gs.length = i) (hs : ss[i]? = some s) (h : Core w base A ss gs (i + 1) W) (c : Cur w base ss gs s t i k W)
    (hrow : Row W1 base t' ((m1 i s.2.1 ++ m2 i k) ++ [mk2 i k])) (hg : (t'.1 = t.1 ∧ W.grownBy W1 (some t.1)) ∨ (W.heap.size ≤ t'.1 ∧ Below W.heap.size W W1)) :
    Core w base A ss gs (i + 1) W1 ∧ Cur w base ss gs s t' i (k + 1) W1 := by
  rw [List.append_assoc, ← m2_succ] at hrow
  have sne : ∀ (j : Nat) (s' : SV), ss[j]? = some s' → j ≠ i → s'.1 ≠ t.1 := by
    intro j s' hs' hj e
    rcases c.where_ with h1 | h1
    · exact hj (O.fam.dist j i s' s hs' hs (by rw [e, h1]))
    · have := O.rows s' (List.mem_of_getElem? hs'); omega
  rcases hg with ⟨e, hg⟩ | ⟨e, hb⟩
  · refine ⟨h.grown hg (fun ad e he => ?_) (fun t2 ht2 he => c.apart t2 ht2 (Option.some.inj he)) (fun j s' hs' hj he => ?_), ⟨hrow, ?_, by rw [e]; exact c.where_, fun t2 ht2 => by rw [e]; exact c.apart t2 ht2⟩⟩
    · have he := Option.some.inj he
      rcases c.where_ with h1 | h1
      · exact O.fam.apart ad e s (List.mem_of_getElem? hs) (by rw [he, h1])
      · have := O.list ad e; omega
    · exact sne j s' hs' (by omega) (Option.some.inj he)
    · by_cases e2 : s.1 = t.1
      · have hre := hrow.reads
        rw [e, ← e2] at hre
        obtain ⟨h1, h2, h3⟩ := hre
        refine ⟨m1_length _ _, by rw [List.length_append, m1_length] at h2; omega, fun hn => ?_⟩
        obtain ⟨ad, ea, hc⟩ := h3 (by rw [List.length_append, m1_length]; omega)
        refine ⟨ad, ea, fun j p hj => hc j p ?_⟩
        rw [List.getElem?_append_left (by have := (List.getElem?_eq_some_iff.1 hj).1; exact this)]
        exact hj
      · exact C_grown (fun _ _ _ _ h => h) c.old hg (fun ad ea _ he => by injection ea with ea; subst ea; exact e2 (Option.some.inj he))
  · have hg0 : W.grownBy W1 none := grown_of_below hb none
    refine ⟨h.grown hg0 (by simp) (by simp) (by simp), ⟨hrow, C_grown (fun _ _ _ _ h => h) c.old hg0 (by simp), .inr (by omega), fun t2 ht2 e3 => ?_⟩⟩
    obtain ⟨j, hj, rfl⟩ := List.mem_iff_getElem.1 ht2
    have hjs : j < ss.length := by have := h.len; omega
    have := ((h.done j gs[j] ss[j] (List.getElem?_eq_getElem hj) (List.getElem?_eq_getElem hjs)).1).lt
    omega
/-- The row i is done. -/
theorem Cur.close {w W : World} {base : Nat} {A : Option Addr} {ss gs : List SV} {i : Nat} {s t : SV} (hi : gs.length = i) (hs : ss[i]? = some s) (h : Core w base A ss gs (i + 1) W) (c : Cur w base ss gs s t i 64 W) : Core w base A ss (gs ++ [t]) (i + 1) W := by
  have hil : i < ss.length := (List.getElem?_eq_some_iff.1 hs).1
  have cut : ∀ {j : Nat} {u : SV}, (gs ++ [t])[j]? = some u → gs[j]? = some u ∨ (j = i ∧ u = t) := by
    intro j u hu
    by_cases hj : j < gs.length
    · rw [List.getElem?_append_left hj] at hu; exact .inl hu
    · have hlt : j < (gs ++ [t]).length := (List.getElem?_eq_some_iff.1 hu).1
      simp at hlt
      rw [List.getElem?_append_right (by omega), show j - gs.length = 0 by omega] at hu
      exact .inr ⟨by omega, (Option.some.inj hu).symm⟩
  refine ⟨h.outer, fun j u s' hu hs' => ?_, h.todo, fun j u s' hu hs' => ?_, fun j j' u u' hu hu' e => ?_, by simp; omega⟩
  · rcases cut hu with hu | ⟨rfl, rfl⟩
    · exact h.done j u s' hu hs'
    · rw [hs] at hs'; injection hs' with hs'; subst hs'
      exact ⟨c.row, c.old⟩
  · rcases cut hu with hu | ⟨rfl, rfl⟩
    · exact h.where_ j u s' hu hs'
    · rw [hs] at hs'; injection hs' with hs'; subst hs'
      exact c.where_
  · rcases cut hu with g1 | ⟨ej, eu⟩ <;> rcases cut hu' with g2 | ⟨ej', eu'⟩
    · exact h.dist j j' u u' g1 g2 e
    · exact absurd (by rw [e, eu']) (c.apart u (List.mem_of_getElem? g1))
    · exact absurd (by rw [← e, eu]) (c.apart u' (List.mem_of_getElem? g2))
    · rw [ej, ej']
end Go.Proofs.Ytjdhoipaanlipaa.G
