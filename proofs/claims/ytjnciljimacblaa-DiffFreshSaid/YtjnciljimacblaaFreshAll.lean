/- Several texts of this claim in one: each part begins with its own remark. Conditions: as each part says. -/
import Derived.Test.YtjnciljimacblaaPT
import Derived.Test.YtjnciljimacblaaQx1
import Derived.Test.YtjnciljimacblaaHN
import Derived.Test.YtjnciljimacblaaQx23
/- Rows of operations that lie in a list of slices, each in a block of its own: what is known of them, and how stores and appends move it. No walk. -/
namespace Go.Proofs.Ytjnciljimacblaa.G
set_option linter.unusedVariables false
set_option linter.unusedSimpArgs false
open Go.RowKit Go.Proofs.Ytjnciljimacblaa.Q Go.Proofs.YtjnciljimacblaaW.PrintWords Go.Proofs.Ytjnciljimacblaa.P
theorem eqA38 (d : Nat) (w : World) (x0 y0 x1 y1 x2 y2 x3 y3 x4 y4 : Int) :
    (Op.equalIn (d + 2) 38 (.agg #[.int .i64 x0, .int .i64 x1, .int .u8 x2, .int .i64 x3, .int .i64 x4]) (.agg #[.int .i64 y0, .int .i64 y1, .int .u8 y2, .int .i64 y3, .int .i64 y4])).run Try.prog w = .ok (x0 == y0 && (x1 == y1 && (x2 == y2 && (x3 == y3 && (x4 == y4))))) w := by
  refine eqA_of Try.underlying38 (by kernel_rfl) ?_
  refine eqf_cons (by rfl) (by go_simp; rfl) (by go_simp; rfl) (by go_simp) ?_
  refine eqf_cons (by rfl) (by go_simp; rfl) (by go_simp; rfl) (by go_simp) ?_
  refine eqf_cons (by rfl) (by go_simp; rfl) (by go_simp; rfl) (by go_simp) ?_
  refine eqf_cons (by rfl) (by go_simp; rfl) (by go_simp; rfl) (by go_simp) ?_
  exact eqf_last (by rfl) (by go_simp; rfl) (by go_simp; rfl) (by go_simp)
theorem info38 : (Try.prog.info? 38).map (fun i => (i.zero, i.size, i.bytes)) = some (some (.agg #[(.int .i64 0), (.int .i64 0), (.int .u8 0), (.int .i64 0), (.int .i64 0)]), 5, 40) := by kernel_rfl
theorem info33 : (Try.prog.info? 33).map (fun i => (i.zero, i.size, i.bytes)) = some (some (.slice none 0 0), 1, 24) := by kernel_rfl
abbrev SV := Nat × Nat × Nat
def sv (s : SV) : Value := .slice (some ⟨s.1, 0, none⟩) s.2.1 s.2.2
def kS : Kd SV := Kd.scalar sv (fun _ => rfl)
/-- A row of operations of the call's own. -/
def Row (w : World) (base : Nat) (s : SV) (xs : List S38) : Prop := Kd.R k38 38 w base (fun k => k = s.1) (sv s) xs
section
variable {w w1 : World} {base : Nat} {s t : SV} {xs : List S38}
theorem Row.len (h : Row w base s xs) : xs.length = s.2.1 := by
  have := (Kd.R_reads' h).1
  exact this.symm
theorem Row.cap (h : Row w base s xs) : s.2.1 ≤ s.2.2 := by
  have := (Kd.R_reads' h)
  have h2 := this.2.1
  have h1 := this.1
  omega
theorem Row.reads (h : Row w base s xs) : Kd.C k38 w (some ⟨s.1, 0, none⟩) xs.length xs := (Kd.R_reads' h).2.2
theorem Row.lt (h : Row w base s xs) : s.1 < w.heap.size := Kd.R_lt h s.1 rfl
theorem Row.ge (h : Row w base s xs) : base ≤ s.1 := Kd.R_base h s.1 rfl
theorem Row.below (h : Row w base s xs) (hb : Below w.heap.size w w1) : Row w1 base s xs := Kd.R_below h hb
theorem Row.grown (h : Row w base s xs) {row : Option Nat} (hg : w.grownBy w1 row) (hne : some s.1 ≠ row) : Row w1 base s xs := Kd.R_grown h hg (fun k hk => by rw [hk]; exact hne)
theorem Row.kept {S : Nat → Prop} (h : Row w base s xs) (hk : Kept w w1 S) (hne : ¬ S s.1) : Row w1 base s xs := Kd.R_kept h hk (fun k e => by rw [e]; exact hne)
end
/-- The world behind a store of an element. -/
def put5 (w : World) (g k : Nat) (y : S38) : World := ((((w.setCell ⟨g, k * 5, none⟩ (.int .i64 y.f0)).setCell ⟨g, k * 5 + 1, none⟩ (.int .i64 y.f1)).setCell ⟨g, k * 5 + 2, none⟩ (.int .u8 y.f2)).setCell ⟨g, k * 5 + 3, none⟩ (.int .i64 y.f3)).setCell ⟨g, k * 5 + 4, none⟩ (.int .i64 y.f4)
/-- An operation of a row: its cells, and a store into them. -/
theorem Row.elem {w : World} {base : Nat} {s : SV} {xs : List S38} (h : Row w base s xs) {k : Nat} {x : S38} (hx : xs[k]? = some x) :
    (w.cell? ⟨s.1, k * 5, none⟩ = some (.int .i64 x.f0) ∧ w.cell? ⟨s.1, k * 5 + 1, none⟩ = some (.int .i64 x.f1) ∧ w.cell? ⟨s.1, k * 5 + 2, none⟩ = some (.int .u8 x.f2) ∧ w.cell? ⟨s.1, k * 5 + 3, none⟩ = some (.int .i64 x.f3) ∧ w.cell? ⟨s.1, k * 5 + 4, none⟩ = some (.int .i64 x.f4)) ∧
    (w.frozen? ⟨s.1, k * 5, none⟩ = false ∧ w.frozen? ⟨s.1, k * 5 + 1, none⟩ = false ∧ w.frozen? ⟨s.1, k * 5 + 2, none⟩ = false ∧ w.frozen? ⟨s.1, k * 5 + 3, none⟩ = false ∧ w.frozen? ⟨s.1, k * 5 + 4, none⟩ = false) ∧
    (∀ y : S38, Row (put5 w s.1 k y) base s (xs.set k y) ∧ w.grownBy (put5 w s.1 k y) (some s.1)) ∧
    ∀ v : Int, Row (w.setCell ⟨s.1, k * 5 + 1, none⟩ (.int .i64 v)) base s (xs.set k ⟨x.f0, v, x.f2, x.f3, x.f4⟩) ∧ w.grownBy (w.setCell ⟨s.1, k * 5 + 1, none⟩ (.int .i64 v)) (some s.1) := by
  have hk : k < xs.length := (List.getElem?_eq_some_iff.1 hx).1
  have hl := h.len
  have hk0 : (0 : Int) ≤ (k : Int) := by omega
  have hk1 : (k : Int) < (s.2.1 : Int) := by omega
  obtain ⟨c, hcl, hM, hcc, hfr⟩ := Kd.R_elem h z38 (k : Int) hk0 hk1
  obtain rfl := k38_openM hM
  have e : xs.getD (k : Int).toNat z38 = x := by rw [Int.toNat_natCast, getD_at _ _ _ hk]; rw [List.getElem?_eq_getElem hk] at hx; exact Option.some.inj hx
  rw [e] at hcc
  refine ⟨⟨hcc 0 _ rfl, hcc 1 _ rfl, hcc 2 _ rfl, hcc 3 _ rfl, hcc 4 _ rfl⟩, ⟨hfr 0, hfr 1, hfr 2, hfr 3, hfr 4⟩, fun y => ?_, fun v => ?_⟩
  · rw [e] at hcl
    have := Kd.R_seg h (k : Int) hk0 hk1 (seg := [.int .i64 y.f0, .int .i64 y.f1, .int .u8 y.f2, .int .i64 y.f3, .int .i64 y.f4]) (j := 0) hcl hcc (show 5 ≤ 5 from by decide) (x' := y) (okp := fun _ => False) (k38_mkM _ _ _ y) (fun _ hk => hk.elim)
    exact this
  · rw [e] at hcl
    have := Kd.R_seg h (k : Int) hk0 hk1 (seg := [.int .i64 v]) (j := 1) hcl hcc (show 2 ≤ 5 from by decide) (x' := ⟨x.f0, v, x.f2, x.f3, x.f4⟩) (okp := fun _ => False) (k38_mkM _ _ _ ⟨x.f0, v, x.f2, x.f3, x.f4⟩) (fun _ hk => hk.elim)
    exact this
theorem C_grown {α : Type} {d : Kd α} {w w1 : World} {A : Option Addr} {n : Nat} {xs : List α} (hd : ∀ (w w' : World) x cs, d.K w x cs → d.K w' x cs) (h : d.C w A n xs) {row : Option Nat} (hg : w.grownBy w1 row) (hne : ∀ ad, A = some ad → 0 < n → some ad.block ≠ row) : d.C w1 A n xs := by
  obtain ⟨h1, h2, h3⟩ := h
  refine ⟨h1, h2, fun hn => ?_⟩
  obtain ⟨ad, e, hc⟩ := h3 hn
  refine ⟨ad, e, fun j p hj => ?_⟩
  obtain ⟨c, c1, c2, c3⟩ := hc j p hj
  exact ⟨c, c1, hd _ _ _ _ c2, fun i u hu => hg.cell (c3 i u hu) (by rw [add_block]; exact hne ad e hn)⟩
theorem kS_K (w w' : World) (x : SV) (cs : List Value) (h : kS.K w x cs) : kS.K w' x cs := h
/-- The slices lie in blocks of their own, none of them the list's. -/
structure Fam (A : Option Addr) (ss : List SV) : Prop where
  dist : ∀ (i j : Nat) (s t : SV), ss[i]? = some s → ss[j]? = some t → s.1 = t.1 → i = j
  apart : ∀ ad, A = some ad → ∀ s ∈ ss, ad.block ≠ s.1
def mk1 (j m : Nat) : S38 := ⟨-1 - (j : Int), 0, 0, 0, m⟩
/-- The first loop: the rows ahead of i are marked whole, the row i up to k. -/
structure St1 (base : Nat) (A : Option Addr) (ss : List SV) (i k : Nat) (w : World) : Prop where
  outer : Kd.C kS w A ss.length ss
  rows : ∃ D : Nat → List S38, (∀ j s, ss[j]? = some s → Row w base s (D j)) ∧ ∀ j s, ss[j]? = some s → ∀ m, (j < i ∨ (j = i ∧ m < k)) → m < s.2.1 → (D j)[m]? = some (mk1 j m)
section
variable {base : Nat} {A : Option Addr} {ss : List SV} {i k : Nat} {w w1 : World} {s : SV}
theorem St1.row (h : St1 base A ss i k w) (hs : ss[i]? = some s) : ∃ xs, Row w base s xs ∧ ∀ w1, Row w1 base s (xs.set k (mk1 i k)) → w.grownBy w1 (some s.1) → Fam A ss → St1 base A ss i (k + 1) w1 := by
  obtain ⟨ho, D, hr, hm⟩ := h
  refine ⟨D i, hr i s hs, fun w1 h1 hg F => ⟨C_grown kS_K ho hg (fun ad e _ he => ?_), fun j => if j = i then (D i).set k (mk1 i k) else D j, fun j t ht => ?_, fun j t ht m hjm hmt => ?_⟩⟩
  · injection he with he
    exact F.apart ad e s (List.mem_of_getElem? hs) he
  · by_cases e : j = i
    · subst e
      rw [hs] at ht
      injection ht with ht
      subst ht
      dsimp only
      rw [if_pos rfl]
      exact h1
    · dsimp only
      rw [if_neg e]
      exact (hr j t ht).grown hg (fun he => e (F.dist j i t s ht hs (Option.some.inj he)))
  · by_cases e : j = i
    · subst e
      dsimp only
      rw [if_pos rfl]
      rw [hs] at ht
      injection ht with ht
      subst ht
      have hl := (hr j s hs).len
      by_cases em : m = k
      · subst em
        rw [List.getElem?_set_self (by omega)]
      · rw [List.getElem?_set_ne (Ne.symm em)]
        exact hm j s hs m (by omega) hmt
    · dsimp only
      rw [if_neg e]
      exact hm j t ht m (by omega) hmt
theorem St1.next (h : St1 base A ss i k w) (hs : ss[i]? = some s) (hk : s.2.1 ≤ k) : St1 base A ss (i + 1) 0 w := by
  obtain ⟨ho, D, hr, hm⟩ := h
  refine ⟨ho, D, hr, fun j t ht m hjm hmt => ?_⟩
  by_cases e : j = i
  · subst e
    rw [hs] at ht
    injection ht with ht
    subst ht
    exact hm j s hs m (.inr ⟨rfl, by omega⟩) hmt
  · exact hm j t ht m (.inl (by omega)) hmt
end
/-- Element i of the list of slices. -/
theorem outer_at {w : World} {A : Option Addr} {ss : List SV} (h : Kd.C kS w A ss.length ss) {i : Nat} {s : SV} (hs : ss[i]? = some s) : ∃ ad, A = some ad ∧ w.cell? (ad.add i) = some (sv s) := by
  have hi : i < ss.length := (List.getElem?_eq_some_iff.1 hs).1
  obtain ⟨_, _, h3⟩ := h
  obtain ⟨ad, e, hc⟩ := h3 (by omega)
  obtain ⟨c, c1, c2, c3⟩ := hc i s hs
  have c2' : c = [sv s] := c2
  subst c2'
  have := c3 0 (sv s) rfl
  exact ⟨ad, e, by simpa [kS, Kd.scalar] using this⟩
end Go.Proofs.Ytjnciljimacblaa.G
/- Rows of elements that are appended to, each row's longer one kept in a list: what is known of them, and how an append moves it. No walk. -/
namespace Go.Proofs.Ytjnciljimacblaa.G
set_option linter.unusedVariables false
set_option linter.unusedSimpArgs false
open Go.RowKit Go.Proofs.Ytjnciljimacblaa.Q Go.Proofs.YtjnciljimacblaaW.PrintWords Go.Proofs.Ytjnciljimacblaa.P
def mk2 (j m : Nat) : S38 := ⟨-1000 - (j : Int), 0, 0, 0, m⟩
def m1 (j n : Nat) : List S38 := (List.range n).map (mk1 j)
def m2 (j n : Nat) : List S38 := (List.range n).map (mk2 j)
theorem m1_length (j n : Nat) : (m1 j n).length = n := by simp [m1]
theorem m2_length (j n : Nat) : (m2 j n).length = n := by simp [m2]
theorem m2_succ (j n : Nat) : m2 j (n + 1) = m2 j n ++ [mk2 j n] := by simp [m2, List.range_succ]
/-- A row that isn't empty has a block. -/
theorem Row.of {w : World} {base : Nat} {ok : Nat → Prop} {v : Value} {xs : List S38} (h : Kd.R k38 38 w base ok v xs) (hp : 0 < xs.length) : ∃ t : SV, v = sv t ∧ Row w base t xs ∧ ok t.1 := by
  obtain ⟨g, cap, rfl, hb, hl, _⟩ := Kd.R_form h hp
  exact ⟨(g, xs.length, cap), rfl, Kd.R_mono (Kd.R_tight (v := .slice (some ⟨g, 0, none⟩) xs.length cap) rfl h) (fun k hk => by have : some k = some g := hk; injection this), h.1 g rfl⟩
/-- Where the lists' slices lie. w: the world at the beginning. -/
structure Old (w : World) (A : Option Addr) (ss : List SV) : Prop where
  fam : Fam A ss
  rows : ∀ s ∈ ss, s.1 < w.heap.size
  list : ∀ ad, A = some ad → ad.block < w.heap.size
/-- The rows from m on are as the first loop left them; those of gs are lengthened. -/
structure Core (w : World) (base : Nat) (A : Option Addr) (ss gs : List SV) (m : Nat) (W : World) : Prop where
  outer : Kd.C kS W A ss.length ss
  done : ∀ (j : Nat) (t s : SV), gs[j]? = some t → ss[j]? = some s → Row W base t (m1 j s.2.1 ++ m2 j 64) ∧ Kd.C k38 W (some ⟨s.1, 0, none⟩) s.2.1 (m1 j s.2.1)
  todo : ∀ (j : Nat) (s : SV), m ≤ j → ss[j]? = some s → Row W base s (m1 j s.2.1)
  where_ : ∀ (j : Nat) (t s : SV), gs[j]? = some t → ss[j]? = some s → t.1 = s.1 ∨ w.heap.size ≤ t.1
  dist : ∀ (j j' : Nat) (t t' : SV), gs[j]? = some t → gs[j']? = some t' → t.1 = t'.1 → j = j'
  len : gs.length ≤ ss.length
theorem Core.grown {w W W1 : World} {base : Nat} {A : Option Addr} {ss gs : List SV} {m : Nat} (h : Core w base A ss gs m W) {row : Option Nat} (hg : W.grownBy W1 row)
    (hA : ∀ ad, A = some ad → some ad.block ≠ row) (hgs : ∀ t ∈ gs, some t.1 ≠ row) (hss : ∀ (j : Nat) (s : SV), ss[j]? = some s → m ≤ j ∨ j < gs.length → some s.1 ≠ row) : Core w base A ss gs m W1 := by
  refine ⟨C_grown kS_K h.outer hg (fun ad e _ => hA ad e), fun j t s ht hs => ⟨((h.done j t s ht hs).1).grown hg (hgs t (List.mem_of_getElem? ht)), ?_⟩, fun j s hj hs => (h.todo j s hj hs).grown hg (hss j s hs (.inl hj)), h.where_, h.dist, h.len⟩
  refine C_grown (fun _ _ _ _ h => h) (h.done j t s ht hs).2 hg (fun ad e _ => ?_)
  injection e with e
  subst e
  exact hss j s hs (.inr (List.getElem?_eq_some_iff.1 ht).1)
/-- The row i, lengthened k times. -/
structure Cur (w : World) (base : Nat) (ss gs : List SV) (s t : SV) (i k : Nat) (W : World) : Prop where
  row : Row W base t (m1 i s.2.1 ++ m2 i k)
  old : Kd.C k38 W (some ⟨s.1, 0, none⟩) s.2.1 (m1 i s.2.1)
  where_ : t.1 = s.1 ∨ w.heap.size ≤ t.1
  apart : ∀ t' ∈ gs, t'.1 ≠ t.1
theorem Cur.len {w : World} {base : Nat} {ss gs : List SV} {s t : SV} {i k : Nat} {W : World} (h : Cur w base ss gs s t i k W) : t.2.1 = s.2.1 + k := by
  have := h.row.len
  rw [List.length_append, m1_length, m2_length] at this
  exact this.symm
/-- Before the first append. -/
theorem Core.cur {w W : World} {base : Nat} {A : Option Addr} {ss gs : List SV} {i : Nat} {s : SV} (h : Core w base A ss gs i W) (O : Old w A ss) (hi : gs.length = i) (hs : ss[i]? = some s) : Core w base A ss gs (i + 1) W ∧ Cur w base ss gs s s i 0 W := by
  have hr := h.todo i s (Nat.le_refl _) hs
  have hread := hr.reads
  rw [m1_length] at hread
  refine ⟨⟨h.outer, h.done, fun j s hj => h.todo j s (by omega), h.where_, h.dist, h.len⟩, ⟨by simpa [m2] using hr, hread, .inl rfl, fun t ht e => ?_⟩⟩
  obtain ⟨j, hj, rfl⟩ := List.mem_iff_getElem.1 ht
  have hjs : j < ss.length := by have := h.len; omega
  rcases h.where_ j gs[j] ss[j] (List.getElem?_eq_getElem hj) (List.getElem?_eq_getElem hjs) with h1 | h1
  · have := O.fam.dist j i ss[j] s (List.getElem?_eq_getElem hjs) hs (by rw [← h1, e])
    omega
  · have := O.rows s (List.mem_of_getElem? hs)
    omega
/-- append of one element to a row of the call's own: in its place, or in a new block, and then nothing old is written. -/
theorem row_append {ops : Array Oper} {rest : List Oper} {o : Oper} {a : Act} {Q : Exit → Act → World → Prop} {W : World} (base : Nat) (hgd : o.guard = none) (s x : Operand) (ho : o.op = .call { callee := .builtin .append, args := #[s, x], argTypes := #[33, 33] })
    (t : SV) (xs : List S38) (p : S38) (hs : a.eval s = sv t) (hx : a.eval x = .slice (some ⟨W.heap.size, 0, none⟩) 1 1) (HR : Row W base t xs) (hbase : base ≤ W.heap.size) (hl : t.2.1 ≤ 6000)
    (h : ∀ t' w1, Row w1 base t' (xs ++ [p]) → ((t'.1 = t.1 ∧ W.grownBy w1 (some t.1)) ∨ (W.heap.size ≤ t'.1 ∧ Below W.heap.size W w1)) → wpList Try.prog ops Q rest (a.put o.dst (sv t')) w1) :
    wpList Try.prog ops Q (o :: rest) a (W.alloc (.cells #[.int .i64 p.f0, .int .i64 p.f1, .int .u8 p.f2, .int .i64 p.f3, .int .i64 p.f4] 38)) := by
  have hlen := HR.len
  have HR0 := HR
  obtain ⟨h0, inner, hown, hr⟩ := HR
  obtain ⟨i0, hi, hzz⟩ := Option.map_eq_some_iff.1 info38
  simp only [Prod.mk.injEq] at hzz
  obtain ⟨hz0, hz1, hz2⟩ := hzz
  have hnews : ∀ j u, [Value.int .i64 p.f0, .int .i64 p.f1, .int .u8 p.f2, .int .i64 p.f3, .int .i64 p.f4][j]? = some u → (W.alloc (.cells #[.int .i64 p.f0, .int .i64 p.f1, .int .u8 p.f2, .int .i64 p.f3, .int .i64 p.f4] 38)).cell? ((⟨W.heap.size, 0, none⟩ : Addr).add j) = some u :=
    by simpa using World.news_of_block (cs := #[Value.int .i64 p.f0, .int .i64 p.f1, .int .u8 p.f2, .int .i64 p.f3, .int .i64 p.f4]) (t := 38) (fr := (0, 0)) (heap_alloc_new W (.cells #[Value.int .i64 p.f0, .int .i64 p.f1, .int .u8 p.f2, .int .i64 p.f3, .int .i64 p.f4] 38))
  have h1 : ∀ u ∈ [Value.int .i64 p.f0, .int .i64 p.f1, .int .u8 p.f2, .int .i64 p.f3, .int .i64 p.f4], u.oneCell' = true := by
    intro u hu
    simp at hu
    rcases hu with rfl | rfl | rfl | rfl | rfl <;> rfl
  have hown' := hown.alloc (.cells #[.int .i64 p.f0, .int .i64 p.f1, .int .u8 p.f2, .int .i64 p.f3, .int .i64 p.f4] 38)
  refine wpList_plain hgd fun K hK => ?_
  obtain ⟨v', w', hrun, g2, g3, _, g5⟩ := run_append_own_at (P := Try.prog) (W.alloc (.cells #[.int .i64 p.f0, .int .i64 p.f1, .int .u8 p.f2, .int .i64 p.f3, .int .i64 p.f4] 38)) base 33 o.type 38 i0 (.agg #[(.int .i64 0), (.int .i64 0), (.int .u8 0), (.int .i64 0), (.int .i64 0)]) 5 40 Try.underlying33 hi hz0 hz1 hz2 rfl (by decide) (sv t) xs.length inner hown' ⟨W.heap.size, 0, none⟩ 1 1 _ rfl hnews h1 (by simp only [maxLen]; omega) (by omega) (by simp; omega)
  have hg : W.grownBy w' (some t.1) := World.grownBy.trans (World.grownBy_alloc W _ _) g3
  have hR : Kd.R k38 38 w' base (fun q => q = t.1 ∨ W.heap.size ≤ q) v' (xs ++ [p]) := by
    refine Kd.R_appended (v := sv t) (okp := fun _ => False) (fun k hk => .inl ?_) (hr.imp_ (fun _ _ hp => k38.M_mono (fun k hk => ⟨.inl hk.1, hk.2⟩) hp)) (k38_mkM W base _ p) (fun _ hk => hk.elim) (fun k hk => .inr hk) g2 (show W.grownBy w' (sv t).ownBlock from hg) ?_
    · have : t.1 = k := by simpa [sv, Value.ownBlock] using hk
      exact this.symm
    · rcases g5 with e | e
      · exact .inl e
      · exact .inr ⟨_, e, by simp⟩
  obtain ⟨t', rfl, hrow, hok⟩ := Row.of hR (by simp)
  have key : (t'.1 = t.1 ∧ W.grownBy w' (some t.1)) ∨ (W.heap.size ≤ t'.1 ∧ Below W.heap.size W w') := by
    rcases hown'.2 with ⟨e, _⟩ | ⟨g, cap, cur, e, hbg, hgb, hnc, hcm, hcs, htake⟩
    · simp [sv] at e
    · have e1 : t.1 = g ∧ t.2.1 = xs.length ∧ t.2.2 = cap := by simpa [sv] using e
      obtain ⟨rfl, e2, rfl⟩ := e1
      have et : sv t = .slice (some ⟨t.1, 0, none⟩) xs.length t.2.2 := by unfold sv; rw [e2]
      rw [et] at hrun
      by_cases hroom : xs.length + 1 ≤ t.2.2
      · have hfit : xs.length * i0.size + [Value.int .i64 p.f0, .int .i64 p.f1, .int .u8 p.f2, .int .i64 p.f3, .int .i64 p.f4].length ≤ cur.size := by
          have hk : k38.sz = 5 := rfl
          rw [hcs, hz1, hk]
          show xs.length * 5 + 5 ≤ _
          omega
        have hr2 := run_append_room (P := Try.prog) (W.alloc (.cells #[.int .i64 p.f0, .int .i64 p.f1, .int .u8 p.f2, .int .i64 p.f3, .int .i64 p.f4] 38)) 33 o.type 38 i0 Try.underlying33 hi t.1 xs.length t.2.2 cur hgb ⟨W.heap.size, 0, none⟩ 1 1 _ (by rw [hz1]; rfl) hnews h1 hroom hfit
        rw [hr2] at hrun
        injection hrun with ev ew
        have h6 : some t.1 = some t'.1 := congrArg Value.ownBlock ev
        exact .inl ⟨(Option.some.inj h6).symm, hg⟩
      · have holds : ∀ j u, inner[j]? = some u → (W.alloc (.cells #[.int .i64 p.f0, .int .i64 p.f1, .int .u8 p.f2, .int .i64 p.f3, .int .i64 p.f4] 38)).cell? ((⟨t.1, 0, none⟩ : Addr).add j) = some u := hown'.cells (g := t.1) rfl
        have hr2 := run_append_grow (P := Try.prog) (W.alloc (.cells #[.int .i64 p.f0, .int .i64 p.f1, .int .u8 p.f2, .int .i64 p.f3, .int .i64 p.f4] 38)) 33 o.type 38 i0 _ Try.underlying33 hi hz0 ⟨t.1, 0, none⟩ xs.length t.2.2 inner (by rw [hown'.1, hz1]; rfl) holds ⟨W.heap.size, 0, none⟩ 1 1 _ (by rw [hz1]; rfl) hnews (by omega) (by omega) (growslice_fits (by omega) (by rw [hz2]; omega))
        rw [hr2] at hrun
        injection hrun with ev ew
        refine .inr ⟨?_, ?_⟩
        · have h6 : some (W.alloc (.cells #[.int .i64 p.f0, .int .i64 p.f1, .int .u8 p.f2, .int .i64 p.f3, .int .i64 p.f4] 38)).heap.size = some t'.1 := congrArg Value.ownBlock ev
          have h7 := Option.some.inj h6
          simp at h7
          omega
        · rw [← ew]
          exact below_alloc (below_drew (below_alloc (Below.refl _ _) _)) _
  unfold Oper.wp execOp
  simp only [ho, resolve, invoke, builtin, Sem.run_bind, Sem.run_pure, Result.andThen_ok, List.map_toArray, List.map_cons, List.map_nil, hs, hx, hrun]
  exact hK _ _ (h t' w' hrow key)
/-- An append to the row i. -/
theorem Cur.append {w W W1 : World} {base : Nat} {A : Option Addr} {ss gs : List SV} {i k : Nat} {s t t' : SV} (O : Old w A ss) (hw : w.heap.size ≤ W.heap.size) (hi : gs.length = i) (hs : ss[i]? = some s) (h : Core w base A ss gs (i + 1) W) (c : Cur w base ss gs s t i k W)
    (hrow : Row W1 base t' ((m1 i s.2.1 ++ m2 i k) ++ [mk2 i k])) (hg : (t'.1 = t.1 ∧ W.grownBy W1 (some t.1)) ∨ (W.heap.size ≤ t'.1 ∧ Below W.heap.size W W1)) :
    Core w base A ss gs (i + 1) W1 ∧ Cur w base ss gs s t' i (k + 1) W1 := by
  rw [List.append_assoc, ← m2_succ] at hrow
  have sne : ∀ (j : Nat) (s' : SV), ss[j]? = some s' → j ≠ i → s'.1 ≠ t.1 := by
    intro j s' hs' hj e
    rcases c.where_ with h1 | h1
    · exact hj (O.fam.dist j i s' s hs' hs (by rw [e, h1]))
    · have := O.rows s' (List.mem_of_getElem? hs'); omega
  rcases hg with ⟨e, hg⟩ | ⟨e, hb⟩
  · refine ⟨h.grown hg (fun ad e he => ?_) (fun t2 ht2 he => c.apart t2 ht2 (Option.some.inj he)) (fun j s' hs' hj he => ?_), ⟨hrow, ?_, by rw [e]; exact c.where_, fun t2 ht2 => by rw [e]; exact c.apart t2 ht2⟩⟩
    · have he := Option.some.inj he
      rcases c.where_ with h1 | h1
      · exact O.fam.apart ad e s (List.mem_of_getElem? hs) (by rw [he, h1])
      · have := O.list ad e; omega
    · exact sne j s' hs' (by omega) (Option.some.inj he)
    · by_cases e2 : s.1 = t.1
      · have hre := hrow.reads
        rw [e, ← e2] at hre
        obtain ⟨h1, h2, h3⟩ := hre
        refine ⟨m1_length _ _, by rw [List.length_append, m1_length] at h2; omega, fun hn => ?_⟩
        obtain ⟨ad, ea, hc⟩ := h3 (by rw [List.length_append, m1_length]; omega)
        refine ⟨ad, ea, fun j p hj => hc j p ?_⟩
        rw [List.getElem?_append_left (by have := (List.getElem?_eq_some_iff.1 hj).1; exact this)]
        exact hj
      · exact C_grown (fun _ _ _ _ h => h) c.old hg (fun ad ea _ he => by injection ea with ea; subst ea; exact e2 (Option.some.inj he))
  · have hg0 : W.grownBy W1 none := grown_of_below hb none
    refine ⟨h.grown hg0 (by simp) (by simp) (by simp), ⟨hrow, C_grown (fun _ _ _ _ h => h) c.old hg0 (by simp), .inr (by omega), fun t2 ht2 e3 => ?_⟩⟩
    obtain ⟨j, hj, rfl⟩ := List.mem_iff_getElem.1 ht2
    have hjs : j < ss.length := by have := h.len; omega
    have := ((h.done j gs[j] ss[j] (List.getElem?_eq_getElem hj) (List.getElem?_eq_getElem hjs)).1).lt
    omega
/-- The row i is done. -/
theorem Cur.close {w W : World} {base : Nat} {A : Option Addr} {ss gs : List SV} {i : Nat} {s t : SV} (hi : gs.length = i) (hs : ss[i]? = some s) (h : Core w base A ss gs (i + 1) W) (c : Cur w base ss gs s t i 64 W) : Core w base A ss (gs ++ [t]) (i + 1) W := by
  have hil : i < ss.length := (List.getElem?_eq_some_iff.1 hs).1
  have cut : ∀ {j : Nat} {u : SV}, (gs ++ [t])[j]? = some u → gs[j]? = some u ∨ (j = i ∧ u = t) := by
    intro j u hu
    by_cases hj : j < gs.length
    · rw [List.getElem?_append_left hj] at hu; exact .inl hu
    · have hlt : j < (gs ++ [t]).length := (List.getElem?_eq_some_iff.1 hu).1
      simp at hlt
      rw [List.getElem?_append_right (by omega), show j - gs.length = 0 by omega] at hu
      exact .inr ⟨by omega, (Option.some.inj hu).symm⟩
  refine ⟨h.outer, fun j u s' hu hs' => ?_, h.todo, fun j u s' hu hs' => ?_, fun j j' u u' hu hu' e => ?_, by simp; omega⟩
  · rcases cut hu with hu | ⟨rfl, rfl⟩
    · exact h.done j u s' hu hs'
    · rw [hs] at hs'; injection hs' with hs'; subst hs'
      exact ⟨c.row, c.old⟩
  · rcases cut hu with hu | ⟨rfl, rfl⟩
    · exact h.where_ j u s' hu hs'
    · rw [hs] at hs'; injection hs' with hs'; subst hs'
      exact c.where_
  · rcases cut hu with g1 | ⟨ej, eu⟩ <;> rcases cut hu' with g2 | ⟨ej', eu'⟩
    · exact h.dist j j' u u' g1 g2 e
    · exact absurd (by rw [e, eu']) (c.apart u (List.mem_of_getElem? g1))
    · exact absurd (by rw [← e, eu]) (c.apart u' (List.mem_of_getElem? g2))
    · rw [ej, ej']
end Go.Proofs.Ytjnciljimacblaa.G
/- The list of the lengthened rows, and how it moves. No walk. -/
namespace Go.Proofs.Ytjnciljimacblaa.G
set_option linter.unusedVariables false
set_option linter.unusedSimpArgs false
open Go.RowKit Go.Proofs.Ytjnciljimacblaa.Q Go.Proofs.YtjnciljimacblaaW.PrintWords Go.Proofs.Ytjnciljimacblaa.P
theorem St1.core {w W : World} {base : Nat} {A : Option Addr} {ss : List SV} (h : St1 base A ss ss.length 0 W) : Core w base A ss [] 0 W := by
  obtain ⟨ho, D, hr, hm⟩ := h
  refine ⟨ho, by simp, fun j s _ hs => ?_, by simp, by simp, by simp⟩
  have e : D j = m1 j s.2.1 := by
    have hl := (hr j s hs).len
    apply List.ext_getElem?
    intro m
    by_cases hms : m < s.2.1
    · rw [hm j s hs m (.inl (List.getElem?_eq_some_iff.1 hs).1) hms]
      simp [m1, hms]
    · rw [List.getElem?_eq_none (by omega), List.getElem?_eq_none (by rw [m1_length]; omega)]
  rw [← e]
  exact hr j s hs
/-- The list of the rows that are done. -/
def Grow (w : World) (base : Nat) (v : Value) (gs : List SV) (W : World) : Prop := Kd.R kS 33 W base (fun q => w.heap.size ≤ q) v gs
theorem Grow.step {w W W1 : World} {base : Nat} {v : Value} {gs : List SV} {t t' : SV} {xs : List S38} (h : Grow w base v gs W) (r : Row W base t xs) (hg : (t'.1 = t.1 ∧ W.grownBy W1 (some t.1)) ∨ (W.heap.size ≤ t'.1 ∧ Below W.heap.size W W1)) : Grow w base v gs W1 := by
  rcases hg with ⟨_, hg⟩ | ⟨_, hb⟩
  · exact Kd.R_over' (v := sv t) (e' := 38) h (Kd.R_typed r) (by decide) hg
  · exact Kd.R_below h hb
theorem Grow.apart {w W : World} {base : Nat} {v : Value} {gs : List SV} {t : SV} {xs : List S38} (h : Grow w base v gs W) (r : Row W base t xs) : some t.1 ≠ v.ownBlock := by
  obtain ⟨cells, hc⟩ := Kd.R_typed r t.1 rfl
  exact Kd.R_ne h hc (by decide)
theorem Core.listed {w W W1 : World} {base : Nat} {A : Option Addr} {ss gs : List SV} {m : Nat} {v : Value} {gs' : List SV} (O : Old w A ss) (h : Core w base A ss gs m W) (g : Grow w base v gs' W) (hg : W.grownBy W1 v.ownBlock) : Core w base A ss gs m W1 := by
  have ge : ∀ q, v.ownBlock = some q → w.heap.size ≤ q := fun q hq => g.1 q hq
  refine h.grown hg (fun ad e he => ?_) (fun t ht => ?_) (fun j s hs _ he => ?_)
  · have := ge _ he.symm; have := O.list ad e; omega
  · obtain ⟨j, hj, rfl⟩ := List.mem_iff_getElem.1 ht
    have hjs : j < ss.length := by have := h.len; omega
    exact g.apart (h.done j gs[j] ss[j] (List.getElem?_eq_getElem hj) (List.getElem?_eq_getElem hjs)).1
  · have := ge _ he.symm; have := O.rows s (List.mem_of_getElem? hs); omega
theorem below_step2 {w0 W W1 : World} {t t' : SV} (hb : Below w0.heap.size w0 W) (ht : w0.heap.size ≤ t.1) (hg : (t'.1 = t.1 ∧ W.grownBy W1 (some t.1)) ∨ (W.heap.size ≤ t'.1 ∧ Below W.heap.size W W1)) : Below w0.heap.size w0 W1 := by
  rcases hg with ⟨_, hg⟩ | ⟨_, h⟩
  · exact pw_below_grown hb _ hb.size hg (fun q hq => by injection hq with hq; omega)
  · exact below_step hb h
theorem kept_step2 {w W W1 : World} {S : Nat → Prop} {t t' : SV} (hk : Kept w W S) (ht : S t.1 ∨ w.heap.size ≤ t.1) (hg : (t'.1 = t.1 ∧ W.grownBy W1 (some t.1)) ∨ (W.heap.size ≤ t'.1 ∧ Below W.heap.size W W1)) : Kept w W1 S := by
  rcases hg with ⟨_, hg⟩ | ⟨_, h⟩
  · exact Kept.of_grown hg hk (fun q hq => by injection hq with hq; rw [← hq]; exact ht)
  · exact hk.below h
/-- Operation k of a row that reads as a list. -/
theorem C38_at {w : World} {A : Option Addr} {n k : Nat} {xs : List S38} {x : S38} (h : Kd.C k38 w A n xs) (hx : xs[k]? = some x) : ∃ ad, A = some ad ∧ w.cell? (ad.add (k * 5)) = some (.int .i64 x.f0) ∧ w.cell? ⟨(ad.add (k * 5)).block, (ad.add (k * 5)).off + 1, none⟩ = some (.int .i64 x.f1) ∧ w.cell? ⟨(ad.add (k * 5)).block, (ad.add (k * 5)).off + 2, none⟩ = some (.int .u8 x.f2) ∧ w.cell? ⟨(ad.add (k * 5)).block, (ad.add (k * 5)).off + 3, none⟩ = some (.int .i64 x.f3) ∧ w.cell? ⟨(ad.add (k * 5)).block, (ad.add (k * 5)).off + 4, none⟩ = some (.int .i64 x.f4) := by
  have hk : k < xs.length := (List.getElem?_eq_some_iff.1 hx).1
  have hn := h.1
  obtain ⟨ad, e, h0, h1, h2, h3, h4⟩ := at_T38 h (k : Int) (by omega) (by omega)
  have ex : rd_T38 xs (k : Int) = x := by rw [rd38, getD_at _ _ _ hk]; rw [List.getElem?_eq_getElem hk] at hx; exact Option.some.inj hx
  rw [ex, Int.toNat_natCast] at h0 h1 h2 h3 h4
  exact ⟨ad, e, h0, h1, h2, h3, h4⟩
end Go.Proofs.Ytjnciljimacblaa.G
/- Rows of elements: more of what is known of them. No walk. -/
namespace Go.Proofs.Ytjnciljimacblaa.G
set_option linter.unusedVariables false
set_option linter.unusedSimpArgs false
open Go.RowKit Go.Proofs.Ytjnciljimacblaa.Q Go.Proofs.YtjnciljimacblaaW.PrintWords Go.Proofs.Ytjnciljimacblaa.P
/-- A row that lies in a block. -/
theorem Row.ofB {w : World} {base : Nat} {ok : Nat → Prop} {v : Value} {xs : List S38} (h : Kd.R k38 38 w base ok v xs) (hb : ∃ b, v.ownBlock = some b) : ∃ t : SV, v = sv t ∧ Row w base t xs := by
  obtain ⟨b, hb⟩ := hb
  have h0 := h
  obtain ⟨_, inner, hown, _⟩ := h
  rcases hown.2 with ⟨e, _⟩ | ⟨g, cap, cur, e, _⟩
  · rw [e] at hb; simp [Value.ownBlock] at hb
  · subst e
    refine ⟨(g, xs.length, cap), rfl, Kd.R_mono (Kd.R_tight (v := .slice (some ⟨g, 0, none⟩) xs.length cap) rfl h0) (fun k hk => ?_)⟩
    have : some k = some g := hk
    injection this
theorem Row.tight {w : World} {base : Nat} {ok : Nat → Prop} {t : SV} {xs : List S38} (h : Kd.R k38 38 w base ok (sv t) xs) : Row w base t xs :=
  Kd.R_mono (Kd.R_tight (v := sv t) rfl h) (fun k hk => by have h1 : some k = some t.1 := hk; injection h1)
/-- A list of rows, each in a block of its own. -/
structure Rows (w : World) (base : Nat) (v : Value) (ss : List SV) (xss : List (List S38)) : Prop where
  list : Kd.R kS 33 w base (fun _ => True) v ss
  len : ss.length = xss.length
  row : ∀ (i : Nat) (s : SV) (xs : List S38), ss[i]? = some s → xss[i]? = some xs → Row w base s xs
  dist : ∀ (i j : Nat) (s t : SV), ss[i]? = some s → ss[j]? = some t → s.1 = t.1 → i = j
end Go.Proofs.Ytjnciljimacblaa.G
/- grownOps: the call answers true; it writes into the rows that it is given, and new memory, alone. -/
namespace Go.Proofs.Ytjnciljimacblaa.G
set_option linter.unusedVariables false
set_option linter.unusedSimpArgs false
open Go.RowKit Go.Proofs.Ytjnciljimacblaa.Q Go.Proofs.YtjnciljimacblaaW.PrintWords Go.Proofs.YtjnciljimacblaaW.PrintLast Go.Proofs.YtjnciljimacblaaW.PrintMore
attribute [local go_sem high] eqA38
set_option maxHeartbeats 8000000 in
set_option maxRecDepth 100000 in
theorem grown_calls (w0 w : World) (A : Option Addr) (c : Nat) (ss : List SV) (hB : Below w0.heap.size w0 w) (hlen : ss.length ≤ 1000) (hl : ∀ s ∈ ss, s.2.1 ≤ 5000) (hc : ss.length ≤ c) (O : Old w A ss) (h1 : St1 w0.heap.size A ss 0 0 w) :
    Calls Try.prog 38 #[.slice A ss.length c] w fun e w' => e = .returned (.bool true) ∧ Below w0.heap.size w0 w' ∧ Kept w w' (fun k => ∃ s ∈ ss, k = s.1) := by
  have hu24 := Try.underlying38
  have HB := Aside0.mk hB
  have HF := Aside0.mk O.fam
  have HO := Aside0.mk O
  have HL := Aside0.mk hl
  have HC := Aside0.mk hc
  have HS := Aside0.mk h1
  have HK := Aside0.mk (Kept.refl w (fun k => ∃ s ∈ ss, k = s.1))
  clear hB O hl hc h1
  go_enter Try.func38, Try.ntmps38
  go_wp2
  go_loopw [3] (fun v3 w' => ∃ i : Nat, i ≤ ss.length ∧ v3 = .int .i64 i ∧ Aside0 (St1 w0.heap.size A ss i 0 w') ∧ Aside0 (Below w0.heap.size w0 w') ∧ Aside0 (Kept w w' (fun k => ∃ s ∈ ss, k = s.1))) (fun v3 _ => ss.length - (intOf v3).toNat)
  case atStart => exact ⟨0, Nat.zero_le _, rfl, HS, HB, HK⟩
  case round =>
    obtain ⟨i, hi, rfl, HS, HB, HK⟩ := hrel
    by_cases hlt : i < ss.length
    · obtain ⟨s, hs0⟩ : ∃ s, ss[i]? = some s := ⟨_, List.getElem?_eq_getElem hlt⟩
      have Hs := Aside0.mk hs0
      clear hs0
      go_wp2
      obtain ⟨wo, rfl⟩ : ∃ wo : World, wo = wr := ⟨_, rfl⟩
      go_loopw [4] (fun v4 w' => ∃ k : Nat, k ≤ s.2.1 ∧ v4 = .int .i64 k ∧ Aside0 (St1 w0.heap.size A ss i k w') ∧ Aside0 (Below w0.heap.size w0 w') ∧ Aside0 (Kept w w' (fun k => ∃ s ∈ ss, k = s.1))) (fun v4 _ => s.2.1 - (intOf v4).toNat)
      case atStart => exact ⟨0, Nat.zero_le _, rfl, HS, HB, HK⟩
      case round =>
        clear HS HB HK
        obtain ⟨k, hk, rfl, HS, HB, HK⟩ := hrel
        obtain ⟨ad, rfl, hcell⟩ := outer_at HS.out.outer Hs.out
        have hsl := HL.out s (List.mem_of_getElem? Hs.out)
        unfold sv at hcell
        by_cases hkl : k < s.2.1
        · obtain ⟨xs, hr, hstep⟩ := HS.out.row Hs.out
          obtain ⟨x, hx⟩ : ∃ x, xs[k]? = some x := ⟨_, List.getElem?_eq_getElem (by have := hr.len; omega)⟩
          obtain ⟨⟨x0, x1, x2, x3, x4⟩, ⟨f0, f1, f2, f3, f4⟩, hput, _⟩ := hr.elem hx
          have HP := Aside0.mk (hput (mk1 i k))
          have HST := Aside0.mk hstep
          have HR := Aside0.mk hr
          clear hput hstep hr hx
          have hge := HR.out.ge
          have hmem := List.mem_of_getElem? Hs.out
          have N1 : Aside0 (St1 w0.heap.size (some ad) ss i (k + 1) (put5 wr s.1 k (mk1 i k))) := ⟨HST.out _ HP.out.1 HP.out.2 HF.out⟩
          have N2 : Aside0 (Below w0.heap.size w0 (put5 wr s.1 k (mk1 i k))) := ⟨pw_below_grown HB.out _ HB.out.size HP.out.2 (fun q hq => by injection hq with hq; rw [← hq]; exact hge)⟩
          have N3 : Aside0 (Kept w (put5 wr s.1 k (mk1 i k)) (fun k => ∃ s ∈ ss, k = s.1)) := ⟨Kept.of_grown HP.out.2 HK.out (fun q hq => by injection hq with hq; exact .inl ⟨s, hmem, hq.symm⟩)⟩
          clear HP HST HR HB HK HS hge hmem
          go_wp2
          go_roundw
          case rel => exact ⟨k + 1, by omega, by go_num, N1, N2, N3⟩
          case measure => simp [intOf]; omega
        · have N1 : Aside0 (St1 w0.heap.size (some ad) ss (i + 1) 0 wr) := ⟨HS.out.next Hs.out (by omega)⟩
          clear HS
          obtain rfl : k = s.2.1 := by omega
          go_wp2
          go_roundw
          case rel => exact ⟨i + 1, by omega, by go_num, N1, HB, HK⟩
          case measure => simp [intOf]; omega
    · obtain rfl : i = ss.length := by omega
      have HCore : Aside0 (Core w w0.heap.size A ss [] 0 wr) := ⟨HS.out.core⟩
      clear HS
      go_wp2
      go_loopw [5, 6] (fun v5 v6 w' => ∃ (i : Nat) (gs : List SV), i ≤ ss.length ∧ v6 = .int .i64 i ∧ Aside0 (gs.length = i) ∧ Aside0 (Core w w0.heap.size A ss gs i w') ∧ Aside0 (Grow w w0.heap.size v5 gs w') ∧ Aside0 (Below w0.heap.size w0 w') ∧ Aside0 (Kept w w' (fun k => ∃ s ∈ ss, k = s.1))) (fun _ v6 _ => ss.length - (intOf v6).toNat)
      case atStart => exact ⟨0, [], Nat.zero_le _, rfl, ⟨rfl⟩, HCore, ⟨Kd.R_nil _ _ _ _ _⟩, HB, HK⟩
      case round =>
        clear HCore HB HK
        obtain ⟨i, gs, hi, rfl, HG, HCore, HGr, HB, HK⟩ := hrel
        by_cases hlt : i < ss.length
        · obtain ⟨s, hs0⟩ : ∃ s, ss[i]? = some s := ⟨_, List.getElem?_eq_getElem hlt⟩
          have Hs := Aside0.mk hs0
          clear hs0
          obtain ⟨ad, rfl, hcell⟩ := outer_at HCore.out.outer Hs.out
          have hsl := HL.out s (List.mem_of_getElem? Hs.out)
          have HC0 := Aside0.mk (HCore.out.cur HO.out HG.out Hs.out)
          unfold sv at hcell
          go_wp2
          obtain ⟨wo, rfl⟩ : ∃ wo : World, wo = wr := ⟨_, rfl⟩
          go_loopw [7, 8] (fun v7 v8 w' => ∃ (k : Nat) (t : SV), k ≤ 64 ∧ v8 = .int .i64 k ∧ v7 = .slice (some ⟨t.1, 0, none⟩) t.2.1 t.2.2 ∧ Aside0 (Core w w0.heap.size (some ad) ss gs (i + 1) w' ∧ Cur w w0.heap.size ss gs s t i k w') ∧ Aside0 (Grow w w0.heap.size u5 gs w') ∧ Aside0 (Below w0.heap.size w0 w') ∧ Aside0 (Kept w w' (fun k => ∃ s ∈ ss, k = s.1))) (fun _ v8 _ => 64 - (intOf v8).toNat)
          case atStart => exact ⟨0, s, Nat.zero_le _, rfl, rfl, HC0, HGr, HB, HK⟩
          case round =>
            clear HC0 HGr HB HK hcell HCore
            obtain ⟨k, t, hk, rfl, rfl, HC0, HGr, HB, HK⟩ := hrel
            by_cases hk64 : k < 64
            · go_wp2_with (at_builtin; refine row_append w0.heap.size rfl (.tmp 51) (.tmp 56) rfl t (m1 i s.2.1 ++ m2 i k) (mk2 i k) rfl rfl HC0.out.2.row ?aS ?aL ?_; (case aS => exact HB.out.size); (case aL => have := HC0.out.2.len; omega); intro t' w1 hrow hg; have N1 := Aside0.mk (Cur.append HO.out HK.out.1 HG.out Hs.out HC0.out.1 HC0.out.2 hrow hg); have N2 := Aside0.mk (Grow.step HGr.out HC0.out.2.row hg); have N3 := Aside0.mk (below_step2 HB.out HC0.out.2.row.ge hg); have N4 := Aside0.mk (kept_step2 HK.out (HC0.out.2.where_.imp (fun e => ⟨s, List.mem_of_getElem? Hs.out, e⟩) id) hg); clear hrow hg HC0 HGr HB HK; unfold sv)
              go_roundw
              case rel => exact ⟨k + 1, t', by omega, by go_num, rfl, N1, N2, N3, N4⟩
              case measure => simp [intOf]; omega
            · obtain rfl : k = 64 := by omega
              go_wp2_with (at_builtin; refine Kd.R_append kS (w0 := w0) w0.heap.size rfl (.tmp 58) (.tmp 60) 73 33 (.slice none 0 0) 24 rfl Try.underlying73 info33 rfl (by decide) (by decide) u5 gs t [sv t] (fun q => w.heap.size ≤ q) (fun _ => False) rfl rfl rfl (fun _ hk => hk.elim) ?aF HGr.out HB.out HB.out.size ?aL ?_; (case aF => exact fun q hq => Nat.le_trans HK.out.1 hq); (case aL => have := HG.out; omega); intro v1 w1 hrow hb hg hat; have N1 := Aside0.mk (Core.listed HO.out (Cur.close HG.out Hs.out HC0.out.1 HC0.out.2) HGr.out hg); have N2 : Aside0 (Grow w w0.heap.size v1 (gs ++ [t]) w1) := ⟨hrow⟩; have N3 := Aside0.mk hb; have N4 := Aside0.mk (Kept.of_grown (S := (fun k => ∃ s ∈ ss, k = s.1)) hg HK.out (fun q hq => .inr (HGr.out.1 q hq))); clear hrow hb hg hat HC0 HGr HB HK)
              go_roundw
              case rel => exact ⟨i + 1, gs ++ [t], by omega, by go_num, ⟨by have := HG.out; simp; omega⟩, N1, N2, N3, N4⟩
              case measure => simp [intOf]; omega
        · obtain rfl : i = ss.length := by omega
          obtain ⟨Ag, cg, hvg⟩ := Kd.R_slice HGr.out
          subst hvg
          go_wp2
          go_loop [9] (fun v9 => ∃ i : Nat, i ≤ ss.length ∧ v9 = .int .i64 i) (fun v9 => ss.length - (intOf v9).toNat)
          case atStart => exact ⟨0, Nat.zero_le _, rfl⟩
          case round =>
            obtain ⟨i, hi3, rfl⟩ := hrel
            have hgc := (Kd.R_reads' HGr.out).2.2
            have hgn := (Kd.R_reads' HGr.out).2.1
            have hgl := HG.out
            by_cases hlt : i < ss.length
            · obtain ⟨s, hs0⟩ : ∃ s, ss[i]? = some s := ⟨_, List.getElem?_eq_getElem hlt⟩
              obtain ⟨t, ht0⟩ : ∃ t, gs[i]? = some t := ⟨_, List.getElem?_eq_getElem (by omega)⟩
              obtain ⟨ad, rfl, hcell⟩ := outer_at HCore.out.outer hs0
              obtain ⟨ag, rfl, hcellg⟩ := outer_at hgc ht0
              obtain ⟨hrow, hold⟩ := HCore.out.done i t s ht0 hs0
              have hsl := HL.out s (List.mem_of_getElem? hs0)
              have htl : t.2.1 = s.2.1 + 64 := by have := hrow.len; rw [List.length_append, m1_length, m2_length] at this; exact this.symm
              have hq : ((t.2.1 : Int) != (s.2.1 : Int) + 64) = false := by rw [bne_eq_false_iff_eq]; omega
              have htb : t.2.1 ≤ 6000 := by omega
              have hig : i < gs.length := by omega
              have HT := Aside0.mk htl
              have HR := Aside0.mk hrow
              have HD := Aside0.mk hold
              clear hgc hgl hrow hold htl hs0 ht0
              unfold sv at hcell hcellg
              go_wp2
              go_loop [11] (fun v11 => ∃ k : Nat, k ≤ s.2.1 + 64 ∧ v11 = .int .i64 k) (fun v11 => s.2.1 + 64 - (intOf v11).toNat)
              case atStart => exact ⟨0, Nat.zero_le _, rfl⟩
              case round =>
                obtain ⟨k, hk, rfl⟩ := hrel
                by_cases hk64 : k < s.2.1 + 64
                · by_cases hkn : k < s.2.1
                  · have hxe : (m1 i s.2.1 ++ m2 i 64)[k]? = some (mk1 i k) := by
                      rw [List.getElem?_append_left (by rw [m1_length]; exact hkn)]; simp [m1, hkn]
                    have hxo : (m1 i s.2.1)[k]? = some (mk1 i k) := by simp [m1, hkn]
                    have hlo : (m1 i s.2.1).length = s.2.1 := m1_length _ _
                    obtain ⟨⟨g0, g1, g2, g3, g4⟩, _, _, _⟩ := HR.out.elem hxe
                    obtain ⟨ao, eo, o0, o1, o2, o3, o4⟩ := C38_at HD.out hxo
                    injection eo with eo
                    subst eo
                    have hktl : k < t.2.1 := by have := HT.out; omega
                    have z0 : ((0 : Int) == 0) = true := rfl
                    have z1 : ((-1 - (i : Int)) == (-1 - (i : Int))) = true := beq_self_eq_true _
                    have z2 : (((k : Int)) == (k : Int)) = true := beq_self_eq_true _
                    change wr.cell? ⟨t.1, k * 5, none⟩ = some (.int .i64 (-1 - (i : Int))) at g0
                    change wr.cell? ⟨t.1, k * 5 + 1, none⟩ = some (.int .i64 0) at g1
                    change wr.cell? ⟨t.1, k * 5 + 2, none⟩ = some (.int .u8 0) at g2
                    change wr.cell? ⟨t.1, k * 5 + 3, none⟩ = some (.int .i64 0) at g3
                    change wr.cell? ⟨t.1, k * 5 + 4, none⟩ = some (.int .i64 (k : Int)) at g4
                    rw [Go.WideShapes.add_plain, Nat.zero_add] at o0 o1 o2 o3 o4
                    change wr.cell? ⟨s.1, k * 5, none⟩ = some (.int .i64 (-1 - (i : Int))) at o0
                    change wr.cell? ⟨s.1, k * 5 + 1, none⟩ = some (.int .i64 0) at o1
                    change wr.cell? ⟨s.1, k * 5 + 2, none⟩ = some (.int .u8 0) at o2
                    change wr.cell? ⟨s.1, k * 5 + 3, none⟩ = some (.int .i64 0) at o3
                    change wr.cell? ⟨s.1, k * 5 + 4, none⟩ = some (.int .i64 (k : Int)) at o4
                    have hnn : ((k : Int) ≥ (s.2.1 : Int)) = False := by simp; omega
                    clear hxe hxo hlo
                    go_wp2
                    exact ⟨⟨k + 1, by omega, by go_num⟩, by simp [intOf]; omega⟩
                  · obtain ⟨m, rfl⟩ : ∃ m, k = s.2.1 + m := ⟨k - s.2.1, by omega⟩
                    have hxe : (m1 i s.2.1 ++ m2 i 64)[s.2.1 + m]? = some (mk2 i m) := by
                      rw [List.getElem?_append_right (by rw [m1_length]; omega), m1_length, show s.2.1 + m - s.2.1 = m by omega]
                      have hm64 : m < 64 := by omega
                      simp [m2, hm64]
                    obtain ⟨⟨g0, g1, g2, g3, g4⟩, _, _, _⟩ := HR.out.elem hxe
                    have hktl : s.2.1 + m < t.2.1 := by have := HT.out; omega
                    have em : ((mk2 i m).f4 : Int) = ((s.2.1 + m : Nat) : Int) - (s.2.1 : Int) := by show (m : Int) = _; omega
                    have z0 : ((0 : Int) == 0) = true := rfl
                    have z1 : ((-1000 - (i : Int)) == (-1000 - (i : Int))) = true := beq_self_eq_true _
                    rw [em] at g4
                    generalize hkk : s.2.1 + m = k at *
                    have z2 : (((k : Int) - (s.2.1 : Int)) == ((k : Int) - (s.2.1 : Int))) = true := beq_self_eq_true _
                    change wr.cell? ⟨t.1, k * 5, none⟩ = some (.int .i64 (-1000 - (i : Int))) at g0
                    change wr.cell? ⟨t.1, k * 5 + 1, none⟩ = some (.int .i64 0) at g1
                    change wr.cell? ⟨t.1, k * 5 + 2, none⟩ = some (.int .u8 0) at g2
                    change wr.cell? ⟨t.1, k * 5 + 3, none⟩ = some (.int .i64 0) at g3
                    have hnn : ((k : Int) ≥ (s.2.1 : Int)) = True := by simp; omega
                    clear hxe em
                    go_wp2
                    exact ⟨⟨k + 1, by omega, by go_num⟩, by simp [intOf]; omega⟩
                · obtain rfl : k = s.2.1 + 64 := by omega
                  go_wp2
                  exact ⟨⟨i + 1, by omega, by go_num⟩, by simp [intOf]; omega⟩
            · obtain rfl : i = ss.length := by omega
              go_wp2
              go_ret
              exact ⟨rfl, HB.out, by simpa using HK.out⟩
end Go.Proofs.Ytjnciljimacblaa.G
/- The calls of the seat's functions on rows that lie in blocks of their own. No walk. -/
namespace Go.Proofs.Ytjnciljimacblaa.G
set_option linter.unusedVariables false
set_option linter.unusedSimpArgs false
open Go.RowKit Go.Proofs.Ytjnciljimacblaa.Q Go.Proofs.YtjnciljimacblaaW.PrintWords Go.Proofs.YtjnciljimacblaaW.PrintLast Go.Proofs.YtjnciljimacblaaW.PrintMore
theorem Row.sv_eq {w : World} {b : Nat} {s : SV} {xs : List S38} (h : Row w b s xs) : sv s = .slice (some ⟨s.1, 0, none⟩) xs.length s.2.2 := by unfold sv; rw [h.len]
theorem Row.capl {w : World} {b : Nat} {s : SV} {xs : List S38} (h : Row w b s xs) : xs.length ≤ s.2.2 := by rw [h.len]; exact h.cap
theorem Row.lower {w : World} {b b' : Nat} {s : SV} {xs : List S38} (h : Row w b s xs) (hb : b' ≤ b) : Row w b' s xs := Kd.R_lower h hb
theorem Rows.below {w w1 : World} {b : Nat} {v : Value} {ss : List SV} {xss : List (List S38)} (h : Rows w b v ss xss) (hb : Below w.heap.size w w1) : Rows w1 b v ss xss :=
  ⟨Kd.R_below h.list hb, h.len, fun i s xs h1 h2 => (h.row i s xs h1 h2).below hb, h.dist⟩
theorem row_ne {W : World} {b b' : Nat} {v : Value} {ok : Nat → Prop} {ss : List SV} {s : SV} {xs : List S38} (h : Kd.R kS 33 W b ok v ss) (r : Row W b' s xs) : some s.1 ≠ v.ownBlock := by
  obtain ⟨cells, hc⟩ := Kd.R_typed r s.1 rfl
  exact Kd.R_ne h hc (by decide)
/-- Rows, each in a block of its own (told without their list). -/
structure RowsIn (w : World) (base : Nat) (ss : List SV) (xss : List (List S38)) : Prop where
  len : ss.length = xss.length
  row : ∀ (i : Nat) (s : SV) (xs : List S38), ss[i]? = some s → xss[i]? = some xs → Row w base s xs
  dist : ∀ (i j : Nat) (s t : SV), ss[i]? = some s → ss[j]? = some t → s.1 = t.1 → i = j
theorem Rows.in_ {W : World} {b : Nat} {v : Value} {ss : List SV} {xss : List (List S38)} (h : Rows W b v ss xss) : RowsIn W b ss xss := ⟨h.len, h.row, h.dist⟩
theorem RowsIn.below {w w1 : World} {b : Nat} {ss : List SV} {xss : List (List S38)} (h : RowsIn w b ss xss) (hb : Below w.heap.size w w1) : RowsIn w1 b ss xss :=
  ⟨h.len, fun i s xs h1 h2 => (h.row i s xs h1 h2).below hb, h.dist⟩
/-- Rows lie in other blocks than lists of rows. -/
theorem RowsIn.over {W w1 : World} {b b' : Nat} {v : Value} {ok : Nat → Prop} {ss ts : List SV} {xss : List (List S38)} (h : RowsIn W b ss xss) (hv : Kd.R kS 33 W b' ok v ts) (hg : W.grownBy w1 v.ownBlock) : RowsIn w1 b ss xss :=
  ⟨h.len, fun i s xs h1 h2 => (h.row i s xs h1 h2).grown hg (row_ne hv (h.row i s xs h1 h2)), h.dist⟩
theorem RowsIn.ge {w : World} {b : Nat} {ss : List SV} {xss : List (List S38)} (h : RowsIn w b ss xss) : ∀ s ∈ ss, b ≤ s.1 ∧ s.1 < w.heap.size := by
  intro s hs
  obtain ⟨i, hi, rfl⟩ := List.mem_iff_getElem.1 hs
  have hx : xss[i]? = some (xss[i]'(by rw [← h.len]; exact hi)) := List.getElem?_eq_getElem _
  have hr := h.row i _ _ (List.getElem?_eq_getElem hi) hx
  exact ⟨hr.ge, hr.lt⟩
/-- Two lists of rows, one behind the other: what grownOps asks of them. -/
theorem grown_row {w0 W : World} {b1 b2 c : Nat} {A : Option Addr} {n : Nat} {ss ts : List SV} {xss yss : List (List S38)} (hB : Below w0.heap.size w0 W) (hx : RowsIn W b1 ss xss) (hy : RowsIn W b2 ts yss)
    (hr : Kd.R kS 33 W w0.heap.size (fun _ => True) (.slice A n c) (ss ++ ts)) (h0 : w0.heap.size ≤ b1) (h1 : w0.heap.size ≤ b2) (h2 : ∀ s ∈ ss, s.1 < b2)
    (hlx : ∀ z ∈ xss, z.length ≤ 4990) (hly : ∀ z ∈ yss, z.length ≤ 4990) (hs : xss.length + yss.length ≤ 1000) (hp0 : 0 < xss.length) :
    Calls Try.prog 38 #[.slice A n c] W fun e w' => e = .returned (.bool true) ∧ Below w0.heap.size w0 w' ∧ Kept W w' (fun k => ∃ s ∈ ss ++ ts, k = s.1) := by
  have hre := Kd.R_reads' hr
  have hn : n = (ss ++ ts).length := hre.1
  subst hn
  have rows : ∀ (j : Nat) (s : SV), (ss ++ ts)[j]? = some s → ∃ xs, (xss ++ yss)[j]? = some xs ∧ Row W w0.heap.size s xs ∧ xs.length ≤ 4990 := by
    intro j s hj
    by_cases hjs : j < ss.length
    · rw [List.getElem?_append_left hjs] at hj
      have hx' : xss[j]? = some (xss[j]'(by rw [← hx.len]; exact hjs)) := List.getElem?_eq_getElem _
      refine ⟨_, by rw [List.getElem?_append_left (by rw [← hx.len]; exact hjs)]; exact hx', (hx.row j s _ hj hx').lower h0, hlx _ (List.getElem_mem _)⟩
    · rw [List.getElem?_append_right (by omega)] at hj
      have hjl := (List.getElem?_eq_some_iff.1 hj).1
      have hy' : yss[j - ss.length]? = some (yss[j - ss.length]'(by rw [← hy.len]; exact hjl)) := List.getElem?_eq_getElem _
      refine ⟨_, by rw [List.getElem?_append_right (by rw [← hx.len]; omega), ← hx.len]; exact hy', (hy.row _ s _ hj hy').lower h1, hly _ (List.getElem_mem _)⟩
  have mems : ∀ s ∈ ss ++ ts, ∃ xs, Row W w0.heap.size s xs ∧ xs.length ≤ 4990 := by
    intro s hs
    obtain ⟨j, hj, rfl⟩ := List.mem_iff_getElem.1 hs
    obtain ⟨xs, _, h⟩ := rows j _ (List.getElem?_eq_getElem hj)
    exact ⟨xs, h⟩
  have own : ∀ ad, A = some ad → 0 < (ss ++ ts).length → (Value.slice A (ss ++ ts).length c).ownBlock = some ad.block := by
    intro ad e hp
    obtain ⟨g, cap, e2, _⟩ := Kd.R_form hr hp
    injection e2 with e3 _ _
    rw [e] at e3
    injection e3 with e3
    subst e3
    subst e
    rfl
  have hst : St1 w0.heap.size A (ss ++ ts) 0 0 W := by
    refine ⟨hre.2.2, fun j => (xss ++ yss).getD j [], fun j s hj => ?_, fun j s _ m hm => by omega⟩
    obtain ⟨xs, e, h, _⟩ := rows j s hj
    have : (xss ++ yss).getD j [] = xs := by rw [List.getD_eq_getElem?_getD, e]; rfl
    dsimp only
    rw [this]
    exact h
  have hold : Old W A (ss ++ ts) := by
    refine ⟨⟨fun i j s t hi hj e => ?_, fun ad e s hs => ?_⟩, fun s hs => ?_, fun ad e => ?_⟩
    · by_cases his : i < ss.length <;> by_cases hjs : j < ss.length
      · rw [List.getElem?_append_left his] at hi
        rw [List.getElem?_append_left hjs] at hj
        exact hx.dist i j s t hi hj e
      · rw [List.getElem?_append_left his] at hi
        rw [List.getElem?_append_right (by omega)] at hj
        have a := h2 s (List.mem_of_getElem? hi)
        have b := (hy.ge t (List.mem_of_getElem? hj)).1
        omega
      · rw [List.getElem?_append_right (by omega)] at hi
        rw [List.getElem?_append_left hjs] at hj
        have a := h2 t (List.mem_of_getElem? hj)
        have b := (hy.ge s (List.mem_of_getElem? hi)).1
        omega
      · rw [List.getElem?_append_right (by omega)] at hi hj
        have := hy.dist _ _ s t hi hj e
        omega
    · intro he
      obtain ⟨xs, h, _⟩ := mems s hs
      obtain ⟨cells, hc⟩ := Kd.R_typed h s.1 rfl
      refine Kd.R_ne hr hc (by decide) ?_
      rw [own ad e (List.length_pos_of_mem hs), he]
    · obtain ⟨xs, h, _⟩ := mems s hs
      exact h.lt
    · exact Kd.R_lt hr _ (own ad e (by rw [List.length_append, hx.len]; omega))
  refine grown_calls w0 W A c (ss ++ ts) hB ?_ ?_ hre.2.1 hold hst
  · rw [List.length_append, hx.len, hy.len]; exact hs
  · intro s hs
    obtain ⟨xs, h, hl⟩ := mems s hs
    rw [← h.len]; omega
theorem lines_row (k : Nat) {w : World} {b1 b2 : Nat} {s t : SV} {xs ys : List S38} {r : Bool} (h1 : Row w b1 s xs) (h2 : Row w b2 t ys) (h : jotterlaw17_lines.f k xs ys = some r) :
    Calls Try.prog 17 #[sv s, sv t] w fun e w' => e = .returned (.bool r) ∧ Below w.heap.size w w' := by
  rw [h1.sv_eq, h2.sv_eq]
  exact jotterlaw17_lines.calls k _ _ xs _ _ ys r w h1.reads h1.capl h2.reads h2.capl h
theorem between_row {w : World} {a b : ByteArray} {x : List S38} (h : diff_Between.f a b 2 1 = some (x, 0)) (hp : 0 < x.length) :
    Calls Try.prog 16 #[.string a, .string b, .int .i64 2, .int .i64 1] w fun e w' => ∃ s : SV, e = .returned (.tuple #[sv s, .int .i64 0]) ∧ Row w' w.heap.size s x ∧ Below w.heap.size w w' := by
  refine (diff_Between.calls a b 2 1 x 0 w h).mono ?_
  rintro e w' ⟨v, rfl, hr, hb⟩
  obtain ⟨t, rfl, ht, _⟩ := Row.of hr hp
  exact ⟨t, rfl, ht, hb⟩
/-- A list of rows that begin one behind the other: what grownOps asks of it. -/
theorem grown_list {w0 W : World} {c : Nat} {A : Option Addr} {n : Nat} {ss : List SV} {xss : List (List S38)} (hB : Below w0.heap.size w0 W) (hx : RowsIn W w0.heap.size ss xss)
    (hr : Kd.R kS 33 W w0.heap.size (fun _ => True) (.slice A n c) ss) (hlx : ∀ z ∈ xss, z.length ≤ 4990) (hs : xss.length ≤ 1000) (hp0 : 0 < xss.length) :
    Calls Try.prog 38 #[.slice A n c] W fun e w' => e = .returned (.bool true) ∧ Below w0.heap.size w0 w' ∧ Kept W w' (fun k => ∃ s ∈ ss, k = s.1) := by
  have := grown_row (w0 := w0) (ts := []) (yss := []) (b2 := W.heap.size) (c := c) (A := A) (n := n) hB hx ⟨rfl, by simp, by simp⟩ (by rw [List.append_nil]; exact hr) (Nat.le_refl _) hB.size (fun s hs => (hx.ge s hs).2) hlx (by simp) (by simpa using hs) hp0
  rw [List.append_nil] at this
  exact this
end Go.Proofs.Ytjnciljimacblaa.G
/- twice: the walk. Written by a program of this session (mkftw.py). -/
namespace Go.Proofs.Ytjnciljimacblaa.G
open Go.RowKit Go.Proofs.Ytjnciljimacblaa.Q Go.Proofs.YtjnciljimacblaaW.PrintWords Go.Proofs.YtjnciljimacblaaW.PrintLast Go.Proofs.YtjnciljimacblaaW.PrintMore
set_option linter.unusedVariables false
set_option linter.unusedSimpArgs false
theorem rows4 {W : World} {b : Nat} {s1 s2 s3 s4 : SV} {x1 x2 x3 x4 : List S38} (h1 : Row W b s1 x1) (h2 : Row W b s2 x2) (h3 : Row W b s3 x3) (h4 : Row W b s4 x4)
    (l12 : s1.1 < s2.1) (l13 : s1.1 < s3.1) (l23 : s2.1 < s3.1) (l14 : s1.1 < s4.1) (l24 : s2.1 < s4.1) (l34 : s3.1 < s4.1) : RowsIn W b [s1, s2, s3, s4] [x1, x2, x3, x4] := by
  refine ⟨rfl, fun i s xs hs hx => ?_, fun i j s t hi hj e => ?_⟩
  · match i with
    | 0 => simp at hs hx; subst hs; subst hx; exact h1
    | 1 => simp at hs hx; subst hs; subst hx; exact h2
    | 2 => simp at hs hx; subst hs; subst hx; exact h3
    | 3 => simp at hs hx; subst hs; subst hx; exact h4
    | n + 4 => simp at hs
  · have hi4 : i < 4 := (List.getElem?_eq_some_iff.1 hi).1
    have hj4 : j < 4 := (List.getElem?_eq_some_iff.1 hj).1
    match i, j, hi4, hj4 with
    | 0, 0, _, _ => rfl
    | 1, 1, _, _ => rfl
    | 2, 2, _, _ => rfl
    | 3, 3, _, _ => rfl
    | 0, 1, _, _ | 0, 2, _, _ | 0, 3, _, _ | 1, 0, _, _ | 1, 2, _, _ | 1, 3, _, _ | 2, 0, _, _ | 2, 1, _, _ | 2, 3, _, _ | 3, 0, _, _ | 3, 1, _, _ | 3, 2, _, _ =>
      simp at hi hj; subst hi; subst hj; omega
theorem grown_none_below {W W1 W2 : World} (h : Below W.heap.size W W1) (hg : W1.grownBy W2 none) : Below W.heap.size W W2 :=
  pw_below_grown h _ h.size hg (fun q hq => by cases hq)
set_option maxHeartbeats 8000000 in
set_option maxRecDepth 100000 in
theorem twice_calls (k : Nat) (a b : ByteArray) (x y : List S38) (w : World) (hx : diff_Between.f a b 2 1 = some (x, 0) ∧ 0 < x.length ∧ x.length ≤ 64) (hy : diff_Between.f b a 2 1 = some (y, 0) ∧ 0 < y.length ∧ y.length ≤ 64)
    (hsx : jotterlaw17_lines.f k x x = some true) (hsy : jotterlaw17_lines.f k y y = some true) :
    Calls Try.prog 18 #[.string a, .string b] w fun e w' => e = .returned (.bool true) ∧ Below w.heap.size w w' := by
  have hu38 := Try.underlying38
  have HX := Aside0.mk hx
  have HY := Aside0.mk hy
  have HSX := Aside0.mk hsx
  have HSY := Aside0.mk hsy
  have HB := Aside0.mk (Below.refl w.heap.size w)
  clear hx hy hsx hsy
  go_enter Try.func18, Try.ntmps18
  go_wp2_with (first | ((with_reducible refine gate_dst (N := 20) rfl ?_); refine goesL_ (some 20) rfl rfl Try.func16 (by kernel_rfl) rfl #[.string a, .string b, .int .i64 2, .int .i64 1] rfl (by (try simp only [List.map_toArray, List.map_cons, List.map_nil]); first | done | rfl) ?_; refine (between_row HX.out.1 HX.out.2.1).mono ?_; rintro e w1 ⟨s1, rfl, hk, hb⟩; refine ⟨_, rfl, ?_⟩; have hbb : Below w.heap.size w w1 := below_step (by repeat (first | (with_reducible exact Below.refl _ _) | apply below_alloc | apply pw_below_drewN | apply below_drew1)) hb; have H1 := Aside0.mk (hk.lower (below_size (by repeat (first | (with_reducible first | exact HB.out | apply below_alloc | apply pw_below_drewN | apply below_drew1) | exact HB.out)))); have n_ := Aside0.mk (below_step HB.out hbb); clear HB; have HB := n_; clear n_; clear hk; clear hb hbb) | ((with_reducible refine gate_dst (N := 26) rfl ?_); refine goesL_ (some 26) rfl rfl Try.func16 (by kernel_rfl) rfl #[.string a, .string b, .int .i64 2, .int .i64 1] rfl (by (try simp only [List.map_toArray, List.map_cons, List.map_nil]); first | done | rfl) ?_; refine (between_row HX.out.1 HX.out.2.1).mono ?_; rintro e w2 ⟨s2, rfl, hk, hb⟩; refine ⟨_, rfl, ?_⟩; have hbb : Below w1.heap.size w1 w2 := below_step (by repeat (first | (with_reducible exact Below.refl _ _) | apply below_alloc | apply pw_below_drewN | apply below_drew1)) hb; have H2 := Aside0.mk (hk.lower (below_size (by repeat (first | (with_reducible first | exact HB.out | apply below_alloc | apply pw_below_drewN | apply below_drew1) | exact HB.out)))); have L12 := Aside0.mk (Nat.lt_of_lt_of_le H1.out.lt (Nat.le_trans (below_size (by repeat (first | (with_reducible exact Below.refl _ _) | apply below_alloc | apply pw_below_drewN | apply below_drew1))) hk.ge)); have n_ := Aside0.mk (H1.out.below hbb); clear H1; have H1 := n_; clear n_; have n_ := Aside0.mk (below_step HB.out hbb); clear HB; have HB := n_; clear n_; clear hk; clear hb hbb) | ((with_reducible refine gate_dst (N := 32) rfl ?_); refine goesL_ (some 32) rfl rfl Try.func16 (by kernel_rfl) rfl #[.string b, .string a, .int .i64 2, .int .i64 1] rfl (by (try simp only [List.map_toArray, List.map_cons, List.map_nil]); first | done | rfl) ?_; refine (between_row HY.out.1 HY.out.2.1).mono ?_; rintro e w3 ⟨s3, rfl, hk, hb⟩; refine ⟨_, rfl, ?_⟩; have hbb : Below w2.heap.size w2 w3 := below_step (by repeat (first | (with_reducible exact Below.refl _ _) | apply below_alloc | apply pw_below_drewN | apply below_drew1)) hb; have H3 := Aside0.mk (hk.lower (below_size (by repeat (first | (with_reducible first | exact HB.out | apply below_alloc | apply pw_below_drewN | apply below_drew1) | exact HB.out)))); have L13 := Aside0.mk (Nat.lt_of_lt_of_le H1.out.lt (Nat.le_trans (below_size (by repeat (first | (with_reducible exact Below.refl _ _) | apply below_alloc | apply pw_below_drewN | apply below_drew1))) hk.ge)); have L23 := Aside0.mk (Nat.lt_of_lt_of_le H2.out.lt (Nat.le_trans (below_size (by repeat (first | (with_reducible exact Below.refl _ _) | apply below_alloc | apply pw_below_drewN | apply below_drew1))) hk.ge)); have n_ := Aside0.mk (H1.out.below hbb); clear H1; have H1 := n_; clear n_; have n_ := Aside0.mk (H2.out.below hbb); clear H2; have H2 := n_; clear n_; have n_ := Aside0.mk (below_step HB.out hbb); clear HB; have HB := n_; clear n_; clear hk; clear hb hbb) | ((with_reducible refine gate_dst (N := 38) rfl ?_); refine goesL_ (some 38) rfl rfl Try.func16 (by kernel_rfl) rfl #[.string b, .string a, .int .i64 2, .int .i64 1] rfl (by (try simp only [List.map_toArray, List.map_cons, List.map_nil]); first | done | rfl) ?_; refine (between_row HY.out.1 HY.out.2.1).mono ?_; rintro e w4 ⟨s4, rfl, hk, hb⟩; refine ⟨_, rfl, ?_⟩; have hbb : Below w3.heap.size w3 w4 := below_step (by repeat (first | (with_reducible exact Below.refl _ _) | apply below_alloc | apply pw_below_drewN | apply below_drew1)) hb; have H4 := Aside0.mk (hk.lower (below_size (by repeat (first | (with_reducible first | exact HB.out | apply below_alloc | apply pw_below_drewN | apply below_drew1) | exact HB.out)))); have L14 := Aside0.mk (Nat.lt_of_lt_of_le H1.out.lt (Nat.le_trans (below_size (by repeat (first | (with_reducible exact Below.refl _ _) | apply below_alloc | apply pw_below_drewN | apply below_drew1))) hk.ge)); have L24 := Aside0.mk (Nat.lt_of_lt_of_le H2.out.lt (Nat.le_trans (below_size (by repeat (first | (with_reducible exact Below.refl _ _) | apply below_alloc | apply pw_below_drewN | apply below_drew1))) hk.ge)); have L34 := Aside0.mk (Nat.lt_of_lt_of_le H3.out.lt (Nat.le_trans (below_size (by repeat (first | (with_reducible exact Below.refl _ _) | apply below_alloc | apply pw_below_drewN | apply below_drew1))) hk.ge)); have n_ := Aside0.mk (H1.out.below hbb); clear H1; have H1 := n_; clear n_; have n_ := Aside0.mk (H2.out.below hbb); clear H2; have H2 := n_; clear n_; have n_ := Aside0.mk (H3.out.below hbb); clear H3; have H3 := n_; clear n_; have n_ := Aside0.mk (below_step HB.out hbb); clear HB; have HB := n_; clear n_; clear hk; clear hb hbb) | ((with_reducible refine gate_dst (N := 58) rfl ?_); (refine gate_guard (by rfl) ?_; dsimp only); refine goesL_ (some 58) rfl rfl Try.func17 (by kernel_rfl) rfl #[sv s1, sv s2] rfl (by (try simp only [List.map_toArray, List.map_cons, List.map_nil]); first | done | rfl) ?_; refine (lines_row k (H1.out.below (by repeat (first | (with_reducible exact Below.refl _ _) | apply below_alloc | apply pw_below_drewN | apply below_drew1))) (H2.out.below (by repeat (first | (with_reducible exact Below.refl _ _) | apply below_alloc | apply pw_below_drewN | apply below_drew1))) HSX.out).mono ?_; rintro e w5 ⟨rfl, hb⟩; refine ⟨_, rfl, ?_⟩; have hbb : Below w4.heap.size w4 w5 := below_step (by repeat (first | (with_reducible exact Below.refl _ _) | apply below_alloc | apply pw_below_drewN | apply below_drew1)) hb; have n_ := Aside0.mk (H1.out.below hbb); clear H1; have H1 := n_; clear n_; have n_ := Aside0.mk (H2.out.below hbb); clear H2; have H2 := n_; clear n_; have n_ := Aside0.mk (H3.out.below hbb); clear H3; have H3 := n_; clear n_; have n_ := Aside0.mk (H4.out.below hbb); clear H4; have H4 := n_; clear n_; have n_ := Aside0.mk (below_step HB.out hbb); clear HB; have HB := n_; clear n_; clear hb hbb) | ((with_reducible refine gate_dst (N := 64) rfl ?_); (refine gate_guard (by rfl) ?_; dsimp only); refine goesL_ (some 64) rfl rfl Try.func17 (by kernel_rfl) rfl #[sv s3, sv s4] rfl (by (try simp only [List.map_toArray, List.map_cons, List.map_nil]); first | done | rfl) ?_; refine (lines_row k (H3.out.below (by repeat (first | (with_reducible exact Below.refl _ _) | apply below_alloc | apply pw_below_drewN | apply below_drew1))) (H4.out.below (by repeat (first | (with_reducible exact Below.refl _ _) | apply below_alloc | apply pw_below_drewN | apply below_drew1))) HSY.out).mono ?_; rintro e w6 ⟨rfl, hb⟩; refine ⟨_, rfl, ?_⟩; have hbb : Below w5.heap.size w5 w6 := below_step (by repeat (first | (with_reducible exact Below.refl _ _) | apply below_alloc | apply pw_below_drewN | apply below_drew1)) hb; have n_ := Aside0.mk (H1.out.below hbb); clear H1; have H1 := n_; clear n_; have n_ := Aside0.mk (H2.out.below hbb); clear H2; have H2 := n_; clear n_; have n_ := Aside0.mk (H3.out.below hbb); clear H3; have H3 := n_; clear n_; have n_ := Aside0.mk (H4.out.below hbb); clear H4; have H4 := n_; clear n_; have n_ := Aside0.mk (below_step HB.out hbb); clear HB; have HB := n_; clear n_; clear hb hbb) | ((with_reducible refine gate_dst (N := 69) rfl ?_); at_builtin; refine Kd.R_append_rows k38 (w0 := w) w.heap.size rfl (.tmp 67) (.tmp 68) 33 38 (.agg #[(.int .i64 0), (.int .i64 0), (.int .u8 0), (.int .i64 0), (.int .i64 0)]) 40 rfl Try.underlying33 info38 rfl (by decide) (by decide) (.slice none 0 0) [] x _ _ _ (fun q => w6.heap.size ≤ q) (fun _ => False) rfl rfl ?aO ?aR (fun _ _ h => h) (fun _ h => h.elim) ?aF ?aB ?aS ?aL ?_; (case aR => have hl := (H1.out.below (by repeat (first | (with_reducible exact Below.refl _ _) | apply below_alloc | apply pw_below_drewN | apply below_drew1))).len; have := (H1.out.below (by repeat (first | (with_reducible exact Below.refl _ _) | apply below_alloc | apply pw_below_drewN | apply below_drew1))).reads; rw [hl] at this; exact this); (case aB => exact (by repeat (first | (with_reducible first | exact HB.out | apply below_alloc | apply pw_below_drewN | apply below_drew1) | exact HB.out))); (case aF => exact fun q hq => Nat.le_trans (below_size (by repeat (first | (with_reducible exact Below.refl _ _) | apply below_alloc | apply pw_below_drewN | apply below_drew1))) hq); (case aO => exact Kd.R_nil _ _ _ _ _); (case aS => exact below_size (by repeat (first | (with_reducible first | exact HB.out | apply below_alloc | apply pw_below_drewN | apply below_drew1) | exact HB.out))); (case aL => have h1 := H1.out.len; have h2 := HX.out.2.2; (try simp only [List.length_nil]); omega); intro v69 w7 ho hb hg hat; rw [List.nil_append] at ho; obtain ⟨sK, hsK, hro, hok⟩ := Row.of ho HX.out.2.1; subst hsK; have hgn : Below w6.heap.size w6 w7 := grown_none_below (by repeat (first | (with_reducible exact Below.refl _ _) | apply below_alloc | apply pw_below_drewN | apply below_drew1)) hg; have HK := Aside0.mk hro; have LK : Aside0 (s1.1 < sK.1 ∧ s2.1 < sK.1 ∧ s3.1 < sK.1 ∧ s4.1 < sK.1) := ⟨Nat.lt_of_lt_of_le H1.out.lt hok, Nat.lt_of_lt_of_le H2.out.lt hok, Nat.lt_of_lt_of_le H3.out.lt hok, Nat.lt_of_lt_of_le H4.out.lt hok⟩; have n_ := Aside0.mk (H1.out.below hgn); clear H1; have H1 := n_; clear n_; have n_ := Aside0.mk (H2.out.below hgn); clear H2; have H2 := n_; clear n_; have n_ := Aside0.mk (H3.out.below hgn); clear H3; have H3 := n_; clear n_; have n_ := Aside0.mk (H4.out.below hgn); clear H4; have H4 := n_; clear n_; clear HB; have HB := Aside0.mk hb; clear ho hb hg hat hro hok hgn) | ((with_reducible refine gate_dst (N := 74) rfl ?_); refine Kd.R_lit kS _ 33 ?hg (N := 74) ?hd (xs := [s1, s2, s3, s4]) (inner := [sv s1, sv s2, sv s3, sv s4]) (ok := fun _ => True) (okp := fun _ => True) ?hr ?hp (fun _ hk => hk) trivial (Below.refl _ _) (Nat.le_refl _) (by simp) ?_; (case hd => rfl); (case hg => rfl); (case hr => first | (go_simp; done) | (go_simp; rfl)); (case hp => exact Reps.one (R := kS.M _ _ _) rfl (Reps.one (R := kS.M _ _ _) rfl (Reps.one (R := kS.M _ _ _) rfl (Reps.one (R := kS.M _ _ _) rfl (Reps.none _ _))))); intro v74 w8 ho hb hg_ hnew_; clear hg_ hnew_; have HB0 := HB; have hbb : Below w7.heap.size w7 w8 := below_step (by repeat (first | (with_reducible exact Below.refl _ _) | apply below_alloc | apply pw_below_drewN | apply below_drew1)) hb; have n_ := Aside0.mk (H1.out.below hbb); clear H1; have H1 := n_; clear n_; have n_ := Aside0.mk (H2.out.below hbb); clear H2; have H2 := n_; clear n_; have n_ := Aside0.mk (H3.out.below hbb); clear H3; have H3 := n_; clear n_; have n_ := Aside0.mk (H4.out.below hbb); clear H4; have H4 := n_; clear n_; have n_ := Aside0.mk (HK.out.below hbb); clear HK; have HK := n_; clear n_; have n_ := Aside0.mk (below_step HB.out hbb); clear HB; have HB := n_; clear n_; have HLs := Aside0.mk (Kd.R_lower ho (below_size (by repeat (first | (with_reducible first | exact HB0.out | apply below_alloc | apply pw_below_drewN | apply below_drew1) | exact HB0.out)))); clear hb ho hbb HB0; obtain ⟨A74, c74, e74⟩ := Kd.R_slice HLs.out; subst e74) | ((with_reducible refine gate_dst (N := 75) rfl ?_); refine goesL_ (some 75) rfl rfl Try.func38 (by kernel_rfl) rfl #[.slice A74 4 c74] rfl (by (try simp only [List.map_toArray, List.map_cons, List.map_nil]); first | done | rfl) ?_; refine (grown_list (w0 := w) (xss := [x, x, y, y]) (by repeat (first | (with_reducible first | exact HB.out | apply below_alloc | apply pw_below_drewN | apply below_drew1) | exact HB.out)) (rows4 (H1.out.below (by repeat (first | (with_reducible exact Below.refl _ _) | apply below_alloc | apply pw_below_drewN | apply below_drew1))) (H2.out.below (by repeat (first | (with_reducible exact Below.refl _ _) | apply below_alloc | apply pw_below_drewN | apply below_drew1))) (H3.out.below (by repeat (first | (with_reducible exact Below.refl _ _) | apply below_alloc | apply pw_below_drewN | apply below_drew1))) (H4.out.below (by repeat (first | (with_reducible exact Below.refl _ _) | apply below_alloc | apply pw_below_drewN | apply below_drew1))) L12.out L13.out L23.out L14.out L24.out L34.out) (Kd.R_below HLs.out (by repeat (first | (with_reducible exact Below.refl _ _) | apply below_alloc | apply pw_below_drewN | apply below_drew1))) ?zl (by simp) (by simp)).mono ?_; (case zl => have h1 := HX.out.2.2; have h2 := HY.out.2.2; intro z hz; simp only [List.mem_cons, List.not_mem_nil, or_false] at hz; rcases hz with rfl | rfl | rfl | rfl <;> omega); rintro e w9 ⟨rfl, hb, hkp⟩; refine ⟨_, rfl, ?_⟩; have n1 := Aside0.mk ((HK.out.below (by repeat (first | (with_reducible exact Below.refl _ _) | apply below_alloc | apply pw_below_drewN | apply below_drew1))).kept hkp (by rintro ⟨t, ht, e⟩; have hL := LK.out; simp only [List.mem_cons, List.not_mem_nil, or_false] at ht; rcases ht with rfl | rfl | rfl | rfl <;> omega)); clear HK HB H1 H2 H3 H4 HLs; have HK := n1; have HB := Aside0.mk hb; clear n1 hb hkp) | ((with_reducible refine gate_dst (N := 79) rfl ?_); refine goesL_ (some 79) rfl rfl Try.func16 (by kernel_rfl) rfl #[.string a, .string b, .int .i64 2, .int .i64 1] rfl (by (try simp only [List.map_toArray, List.map_cons, List.map_nil]); first | done | rfl) ?_; refine (between_row HX.out.1 HX.out.2.1).mono ?_; rintro e w10 ⟨s5, rfl, hk, hb⟩; refine ⟨_, rfl, ?_⟩; have hbb : Below w9.heap.size w9 w10 := below_step (by repeat (first | (with_reducible exact Below.refl _ _) | apply below_alloc | apply pw_below_drewN | apply below_drew1)) hb; have H5 := Aside0.mk (hk); have n_ := Aside0.mk (HK.out.below hbb); clear HK; have HK := n_; clear n_; have n_ := Aside0.mk (below_step HB.out hbb); clear HB; have HB := n_; clear n_; clear hk; clear hb hbb) | ((with_reducible refine gate_dst (N := 90) rfl ?_); (refine gate_guard (by rfl) ?_; dsimp only); refine goesL_ (some 90) rfl rfl Try.func17 (by kernel_rfl) rfl #[sv s5, sv sK] rfl (by (try simp only [List.map_toArray, List.map_cons, List.map_nil]); first | done | rfl) ?_; refine (lines_row k (H5.out.below (by repeat (first | (with_reducible exact Below.refl _ _) | apply below_alloc | apply pw_below_drewN | apply below_drew1))) (HK.out.below (by repeat (first | (with_reducible exact Below.refl _ _) | apply below_alloc | apply pw_below_drewN | apply below_drew1))) HSX.out).mono ?_; rintro e w11 ⟨rfl, hb⟩; refine ⟨_, rfl, ?_⟩; have hbb : Below w10.heap.size w10 w11 := below_step (by repeat (first | (with_reducible exact Below.refl _ _) | apply below_alloc | apply pw_below_drewN | apply below_drew1)) hb; have n_ := Aside0.mk (H5.out.below hbb); clear H5; have H5 := n_; clear n_; have n_ := Aside0.mk (HK.out.below hbb); clear HK; have HK := n_; clear n_; have n_ := Aside0.mk (below_step HB.out hbb); clear HB; have HB := n_; clear n_; clear hb hbb))
  go_ret
  exact ⟨rfl, HB.out⟩
end Go.Proofs.Ytjnciljimacblaa.G
/- A row that is lengthened by one operation, the elder slice still read (DiffFresh). No walk. -/
namespace Go.Proofs.Ytjnciljimacblaa.G
set_option linter.unusedVariables false
set_option linter.unusedSimpArgs false
open Go.RowKit Go.Proofs.Ytjnciljimacblaa.Q Go.Proofs.YtjnciljimacblaaW.PrintWords
theorem C_kept38 {W W1 : World} {ad : Addr} {n : Nat} {xs : List S38} {S : Nat → Prop} (h : Kd.C k38 W (some ad) n xs) (hk : Kept W W1 S) (hne : ¬ S ad.block) : Kd.C k38 W1 (some ad) n xs := by
  obtain ⟨h1, h2, h3⟩ := h
  refine ⟨h1, h2, fun hn => ?_⟩
  obtain ⟨ad', e, hc⟩ := h3 hn
  injection e with e
  subst e
  refine ⟨ad, rfl, fun j p hj => ?_⟩
  obtain ⟨c, c1, c2, c3⟩ := hc j p hj
  exact ⟨c, c1, c2, fun i u hu => cell_kept (c3 i u hu) hk (by rw [add_block]; exact hne)⟩
/-- t: the row s, lengthened by one element; the elder slice is read as before. -/
structure Longer (W : World) (base : Nat) (s t : SV) (xs : List S38) (e : S38) : Prop where
  row : Row W base t (xs ++ [e])
  old : Kd.C k38 W (some ⟨s.1, 0, none⟩) s.2.1 xs
theorem Longer.kept {W W1 : World} {base : Nat} {s t : SV} {xs : List S38} {e : S38} {S : Nat → Prop} (h : Longer W base s t xs e) (hk : Kept W W1 S) (h1 : ¬ S t.1) (h2 : ¬ S s.1) : Longer W1 base s t xs e :=
  ⟨h.row.kept hk h1, C_kept38 h.old hk h2⟩
theorem Longer.below {W W1 : World} {base : Nat} {s t : SV} {xs : List S38} {e : S38} (h : Longer W base s t xs e) (hb : Below W.heap.size W W1) : Longer W1 base s t xs e :=
  h.kept (S := fun _ => False) (Kept.of_below hb _) (fun h => h) (fun h => h)
/-- What an append of one element answers of its row. -/
def Step (W W1 : World) (s t : SV) : Prop := (t.1 = s.1 ∧ W.grownBy W1 (some s.1)) ∨ (W.heap.size ≤ t.1 ∧ Below W.heap.size W W1)
theorem Step.kept {W W1 : World} {s t : SV} (h : Step W W1 s t) : Kept W W1 (fun q => q = s.1) := by
  rcases h with ⟨_, hg⟩ | ⟨_, hb⟩
  · exact Kept.of_grown hg (Kept.refl _ _) (fun k hk => .inl (Option.some.inj hk).symm)
  · exact Kept.of_below hb _
theorem Step.where_ {W W1 : World} {s t : SV} (h : Step W W1 s t) : t.1 = s.1 ∨ W.heap.size ≤ t.1 := by
  rcases h with ⟨e, _⟩ | ⟨e, _⟩
  · exact .inl e
  · exact .inr e
theorem Step.longer {W W1 : World} {base : Nat} {s t : SV} {xs : List S38} {e : S38} (h : Step W W1 s t) (r : Row W base s xs) (hrow : Row W1 base t (xs ++ [e])) : Longer W1 base s t xs e := by
  refine ⟨hrow, ?_⟩
  have hlen := r.len
  rcases h with ⟨e1, hg⟩ | ⟨e1, hb⟩
  · have hre := hrow.reads
    rw [e1] at hre
    obtain ⟨h1, h2, h3⟩ := hre
    refine ⟨hlen, by rw [List.length_append] at h2; omega, fun hn => ?_⟩
    obtain ⟨ad, ea, hc⟩ := h3 (by rw [List.length_append]; omega)
    refine ⟨ad, ea, fun q p hq => hc q p ?_⟩
    rw [List.getElem?_append_left (List.getElem?_eq_some_iff.1 hq).1]
    exact hq
  · have hre := r.reads
    rw [hlen] at hre
    exact C_grown (fun _ _ _ _ h => h) hre (grown_of_below hb none) (by simp)
theorem longer_cell {W : World} {base : Nat} {s t : SV} {xs : List S38} {e : S38} (h : Longer W base s t xs e) (hl : s.2.1 = xs.length) : ∃ (b c : Nat), t = (b, s.2.1 + 1, c) ∧ W.cell? ⟨b, s.2.1 * 5, none⟩ = some (.int .i64 e.f0) := by
  obtain ⟨⟨h0, _⟩, _⟩ := h.row.elem (k := s.2.1) (x := e) (by rw [hl, List.getElem?_append_right (Nat.le_refl _), Nat.sub_self]; rfl)
  have hn := h.row.len
  rw [List.length_append, ← hl] at hn
  obtain ⟨b, n, c⟩ := t
  have : n = s.2.1 + 1 := hn.symm
  subst this
  exact ⟨b, c, rfl, h0⟩
/-- The first i operations are written over. -/
def over (g : Nat → S38 → S38) (xs : List S38) (i : Nat) : List S38 := (xs.take i).mapIdx g ++ xs.drop i
theorem over_zero (g : Nat → S38 → S38) (xs : List S38) : over g xs 0 = xs := by simp [over]
theorem over_length {g : Nat → S38 → S38} {xs : List S38} {i : Nat} : (over g xs i).length = xs.length := by simp [over]; omega
theorem over_at {g : Nat → S38 → S38} {xs : List S38} {i : Nat} (h : i < xs.length) : (over g xs i)[i]? = some xs[i] := by
  unfold over
  rw [List.getElem?_append_right (by simp; omega), List.getElem?_drop]
  simp [Nat.min_eq_left (Nat.le_of_lt h), h]
theorem over_set {g : Nat → S38 → S38} {xs : List S38} {i : Nat} (h : i < xs.length) : (over g xs i).set i (g i xs[i]) = over g xs (i + 1) := by
  unfold over
  rw [List.set_append_right _ _ (by simp; omega)]
  have e : (List.mapIdx g (List.take i xs)).length = i := by simp; omega
  rw [e, Nat.sub_self, List.drop_eq_getElem_cons h, List.take_add_one, List.getElem?_eq_getElem h, List.mapIdx_append]
  simp [Nat.min_eq_left (Nat.le_of_lt h)]
  rw [List.drop_eq_getElem_cons h]
  rfl
theorem over_done {g : Nat → S38 → S38} {xs : List S38} {i : Nat} {y : S38} (h : (over g xs xs.length)[i]? = some y) : ∃ x, y = g i x := by
  unfold over at h
  rw [List.take_length, List.drop_length, List.append_nil, List.getElem?_mapIdx] at h
  obtain ⟨x, _, e⟩ := Option.map_eq_some_iff.1 h
  exact ⟨x, e.symm⟩
def gM (i : Nat) (_ : S38) : S38 := ⟨-1, 0, 0, 0, -(i : Int)⟩
def gP (_ : Nat) (x : S38) : S38 := ⟨x.f0, -5, x.f2, x.f3, x.f4⟩
end Go.Proofs.Ytjnciljimacblaa.G
/- DiffFresh: the walk. Written by a program of this session (mkffr.py). -/
namespace Go.Proofs.Ytjnciljimacblaa.G
open Go.RowKit Go.Proofs.Ytjnciljimacblaa.Q Go.Proofs.YtjnciljimacblaaW.PrintWords Go.Proofs.YtjnciljimacblaaW.PrintLast Go.Proofs.YtjnciljimacblaaW.PrintMore
set_option linter.unusedVariables false
set_option linter.unusedSimpArgs false
set_option maxHeartbeats 8000000 in
set_option maxRecDepth 100000 in
theorem fresh_calls (k : Nat) (a b a1 b1 : ByteArray) (x y : List S38) (w : World) (hpa : jotterlaw17_plain.f a 30 = some a1) (hpb : jotterlaw17_plain.f b 30 = some b1) (la : a1.size ≤ 30) (lb : b1.size ≤ 30)
    (hx : diff_Between.f (a1 ++ (⟨#[126, 33]⟩ : ByteArray)) (b1 ++ (⟨#[33, 126]⟩ : ByteArray)) 2 1 = some (x, 0) ∧ 0 < x.length ∧ x.length ≤ 64) (hy : diff_Between.f (b1 ++ (⟨#[33, 126]⟩ : ByteArray)) (a1 ++ (⟨#[126, 33]⟩ : ByteArray)) 2 1 = some (y, 0) ∧ 0 < y.length ∧ y.length ≤ 64)
    (hsx : jotterlaw17_lines.f k x x = some true) (hsy : jotterlaw17_lines.f k y y = some true) :
    Calls Try.prog 6 #[.string a, .string b] w fun e w' => e = .returned (.bool true) ∧ Below w.heap.size w w' := by
  have hu38 := Try.underlying38
  have HX := Aside0.mk hx
  have HY := Aside0.mk hy
  have HSX := Aside0.mk hsx
  have HSY := Aside0.mk hsy
  have HPA := Aside0.mk hpa
  have HPB := Aside0.mk hpb
  have HB := Aside0.mk (Below.refl w.heap.size w)
  have ca1 : (a1.size + 2 ≤ 9223372036854775807) = True := eq_true (by omega)
  have ca2 : (9223372036854775807 < a1.size + 2) = False := eq_false (by omega)
  have cb1 : (b1.size + 2 ≤ 9223372036854775807) = True := eq_true (by omega)
  have cb2 : (9223372036854775807 < b1.size + 2) = False := eq_false (by omega)
  clear hx hy hsx hsy hpa hpb
  go_enter Try.func6, Try.ntmps6
  go_wp2_with (first | ((with_reducible refine gate_dst (N := 19) rfl ?_); refine goesL_ (some 19) rfl rfl Try.func11 (by kernel_rfl) rfl #[.string a, .int .i64 30] rfl (by (try simp only [List.map_toArray, List.map_cons, List.map_nil]); first | done | rfl) ?_; refine (jotterlaw17_plain.calls a 30 a1 _ HPA.out).mono ?_; rintro e w1 ⟨rfl, hb⟩; refine ⟨_, rfl, ?_⟩; have hbb : Below w.heap.size w w1 := below_step (by repeat (first | (with_reducible exact Below.refl _ _) | apply below_alloc | apply pw_below_drewN | apply below_drew1)) hb; have n_ := Aside0.mk (below_step HB.out hbb); clear HB; have HB := n_; clear n_; clear hb hbb) | ((with_reducible refine gate_dst (N := 21) rfl ?_); refine goesL_ (some 21) rfl rfl Try.func11 (by kernel_rfl) rfl #[.string b, .int .i64 30] rfl (by (try simp only [List.map_toArray, List.map_cons, List.map_nil]); first | done | rfl) ?_; refine (jotterlaw17_plain.calls b 30 b1 _ HPB.out).mono ?_; rintro e w2 ⟨rfl, hb⟩; refine ⟨_, rfl, ?_⟩; have hbb : Below w1.heap.size w1 w2 := below_step (by repeat (first | (with_reducible exact Below.refl _ _) | apply below_alloc | apply pw_below_drewN | apply below_drew1)) hb; have n_ := Aside0.mk (below_step HB.out hbb); clear HB; have HB := n_; clear n_; clear hb hbb) | ((with_reducible refine gate_dst (N := 28) rfl ?_); refine goesL_ (some 28) rfl rfl Try.func16 (by kernel_rfl) rfl #[.string (a1 ++ (⟨#[126, 33]⟩ : ByteArray)), .string (b1 ++ (⟨#[33, 126]⟩ : ByteArray)), .int .i64 2, .int .i64 1] rfl (by (try simp only [List.map_toArray, List.map_cons, List.map_nil]); first | done | rfl) ?_; refine (between_row HX.out.1 HX.out.2.1).mono ?_; rintro e w3 ⟨s1, rfl, hk, hb⟩; refine ⟨_, rfl, ?_⟩; have hbb : Below w2.heap.size w2 w3 := below_step (by repeat (first | (with_reducible exact Below.refl _ _) | apply below_alloc | apply pw_below_drewN | apply below_drew1)) hb; have H1 := Aside0.mk (hk.lower (below_size (by repeat (first | (with_reducible first | exact HB.out | apply below_alloc | apply pw_below_drewN | apply below_drew1) | exact HB.out)))); have n_ := Aside0.mk (below_step HB.out hbb); clear HB; have HB := n_; clear n_; clear hk; clear hb hbb) | ((with_reducible refine gate_dst (N := 34) rfl ?_); refine goesL_ (some 34) rfl rfl Try.func16 (by kernel_rfl) rfl #[.string (a1 ++ (⟨#[126, 33]⟩ : ByteArray)), .string (b1 ++ (⟨#[33, 126]⟩ : ByteArray)), .int .i64 2, .int .i64 1] rfl (by (try simp only [List.map_toArray, List.map_cons, List.map_nil]); first | done | rfl) ?_; refine (between_row HX.out.1 HX.out.2.1).mono ?_; rintro e w4 ⟨s2, rfl, hk, hb⟩; refine ⟨_, rfl, ?_⟩; have hbb : Below w3.heap.size w3 w4 := below_step (by repeat (first | (with_reducible exact Below.refl _ _) | apply below_alloc | apply pw_below_drewN | apply below_drew1)) hb; have H2 := Aside0.mk (hk.lower (below_size (by repeat (first | (with_reducible first | exact HB.out | apply below_alloc | apply pw_below_drewN | apply below_drew1) | exact HB.out)))); have L12 := Aside0.mk (Nat.lt_of_lt_of_le H1.out.lt (Nat.le_trans (below_size (by repeat (first | (with_reducible exact Below.refl _ _) | apply below_alloc | apply pw_below_drewN | apply below_drew1))) hk.ge)); have n_ := Aside0.mk (H1.out.below hbb); clear H1; have H1 := n_; clear n_; have n_ := Aside0.mk (below_step HB.out hbb); clear HB; have HB := n_; clear n_; clear hk; clear hb hbb) | ((with_reducible refine gate_dst (N := 46) rfl ?_); (refine gate_guard (by rfl) ?_; dsimp only); refine goesL_ (some 46) rfl rfl Try.func17 (by kernel_rfl) rfl #[sv s1, sv s2] rfl (by (try simp only [List.map_toArray, List.map_cons, List.map_nil]); first | done | rfl) ?_; refine (lines_row k (H1.out.below (by repeat (first | (with_reducible exact Below.refl _ _) | apply below_alloc | apply pw_below_drewN | apply below_drew1))) (H2.out.below (by repeat (first | (with_reducible exact Below.refl _ _) | apply below_alloc | apply pw_below_drewN | apply below_drew1))) HSX.out).mono ?_; rintro e w5 ⟨rfl, hb⟩; refine ⟨_, rfl, ?_⟩; have hbb : Below w4.heap.size w4 w5 := below_step (by repeat (first | (with_reducible exact Below.refl _ _) | apply below_alloc | apply pw_below_drewN | apply below_drew1)) hb; have n_ := Aside0.mk (H1.out.below hbb); clear H1; have H1 := n_; clear n_; have n_ := Aside0.mk (H2.out.below hbb); clear H2; have H2 := n_; clear n_; have n_ := Aside0.mk (below_step HB.out hbb); clear HB; have HB := n_; clear n_; have hl1 := H1.out.len; have hl2 := HX.out.2; unfold sv; have hz1 : ((s1.2.1 : Int) == 0) = false := (by rw [beq_eq_false_iff_ne]; omega); clear hb hbb))
  clear hl1 hl2 hz1
  go_loopw [9] (fun v9 w' => ∃ i : Nat, i ≤ x.length ∧ v9 = .int .i64 i ∧ Aside0 (Row w' w.heap.size s1 (over gM x i)) ∧ Aside0 (Row w' w.heap.size s2 x) ∧ Aside0 (Below w.heap.size w w')) (fun v9 _ => x.length - (intOf v9).toNat)
  case atStart => exact ⟨0, Nat.zero_le _, rfl, ⟨by rw [over_zero]; exact H1.out⟩, H2, HB⟩
  case round =>
    have hls := H1.out.len
    have hx64 := HX.out.2.2
    clear H1 H2 HB
    obtain ⟨i, hi, rfl, H1, H2, HB⟩ := hrel
    by_cases hlt : i < s1.2.1
    · obtain ⟨⟨q0, q1, q2, q3, q4⟩, ⟨f0, f1, f2, f3, f4⟩, hput, _⟩ := H1.out.elem (over_at (g := gM) (xs := x) (i := i) (by omega))
      have HP_ := Aside0.mk (hput (gM i (x[i]'(by omega))))
      rw [over_set (by omega)] at HP_
      have hge := H1.out.ge
      have N1 : Aside0 (Row (put5 wr s1.1 i (gM i (x[i]'(by omega)))) w.heap.size s1 (over gM x (i + 1))) := ⟨HP_.out.1⟩
      have N2 : Aside0 (Row (put5 wr s1.1 i (gM i (x[i]'(by omega)))) w.heap.size s2 x) := ⟨H2.out.grown HP_.out.2 (fun e => by have h1 : s2.1 = s1.1 := Option.some.inj e; have := L12.out; omega)⟩
      have N3 : Aside0 (Below w.heap.size w (put5 wr s1.1 i (gM i (x[i]'(by omega))))) := ⟨pw_below_grown HB.out _ HB.out.size HP_.out.2 (fun q hq => by injection hq with hq; rw [← hq]; exact hge)⟩
      clear HP_ H1 H2 HB hput
      go_wp2
      go_roundw
      case rel => exact ⟨i + 1, by omega, by go_num, N1, N2, N3⟩
      case measure => simp [intOf]; omega
    · obtain rfl : i = s1.2.1 := by omega
      have n_ : Aside0 (Row wr w.heap.size s1 (over gM x x.length)) := ⟨by have h := H1.out; rw [← hls] at h; exact h⟩
      clear H1
      have H1 := n_
      clear n_
      obtain ⟨wp, hwp⟩ : ∃ wp : World, wp = wr := ⟨_, rfl⟩
      subst hwp
      go_wp2_with (first | ((with_reducible refine gate_dst (N := 69) rfl ?_); at_builtin; refine row_append (W := wp) w.heap.size rfl (.tmp 66) (.tmp 68) rfl s1 (over gM x x.length) (⟨-2, 0, 0, 0, 0⟩ : S38) rfl rfl H1.out ?aS ?aL ?_; (case aS => exact HB.out.size); (case aL => have h1 := H1.out.len; rw [over_length] at h1; have := HX.out.2.2; omega); intro tG w6 hrow hg; have hst : Step wp w6 s1 tG := hg; have hkp := hst.kept; have HG := Aside0.mk (hst.longer H1.out hrow); have LG : Aside0 (tG.1 = s1.1 ∨ s2.1 < tG.1) := ⟨by have h1 := hst.where_; have h2 := H2.out.lt; omega⟩; have n_ := Aside0.mk (below_step2 HB.out H1.out.ge hg); clear HB; have HB := n_; clear n_; have n_ := Aside0.mk (H2.out.kept hkp (fun e => by have := L12.out; omega)); clear H2 H1; have H2 := n_; clear n_ hrow hg hst hkp; unfold sv) | ((with_reducible refine gate_dst (N := 73) rfl ?_); refine goesL_ (some 73) rfl rfl Try.func16 (by kernel_rfl) rfl #[.string (a1 ++ (⟨#[126, 33]⟩ : ByteArray)), .string (b1 ++ (⟨#[33, 126]⟩ : ByteArray)), .int .i64 2, .int .i64 1] rfl (by (try simp only [List.map_toArray, List.map_cons, List.map_nil]); first | done | rfl) ?_; refine (between_row HX.out.1 HX.out.2.1).mono ?_; rintro e w7 ⟨s3, rfl, hk, hb⟩; refine ⟨_, rfl, ?_⟩; have hbb : Below w6.heap.size w6 w7 := below_step (by repeat (first | (with_reducible exact Below.refl _ _) | apply below_alloc | apply pw_below_drewN | apply below_drew1)) hb; have H3 := Aside0.mk (hk.lower (below_size (by repeat (first | (with_reducible first | exact HB.out | apply below_alloc | apply pw_below_drewN | apply below_drew1) | exact HB.out)))); have L3 := Aside0.mk ((⟨Nat.lt_of_lt_of_le H2.out.lt (Nat.le_trans (below_size (by repeat (first | (with_reducible exact Below.refl _ _) | apply below_alloc | apply pw_below_drewN | apply below_drew1))) hk.ge), Nat.lt_of_lt_of_le HG.out.row.lt (Nat.le_trans (below_size (by repeat (first | (with_reducible exact Below.refl _ _) | apply below_alloc | apply pw_below_drewN | apply below_drew1))) hk.ge)⟩ : s2.1 < s3.1 ∧ tG.1 < s3.1)); have n_ := Aside0.mk (H2.out.below hbb); clear H2; have H2 := n_; clear n_; have n_ := Aside0.mk (HG.out.below hbb); clear HG; have HG := n_; clear n_; have n_ := Aside0.mk (below_step HB.out hbb); clear HB; have HB := n_; clear n_; clear hk; unfold sv; clear hb hbb))
      go_loopw [13] (fun v13 w' => ∃ i : Nat, i ≤ x.length ∧ v13 = .int .i64 i ∧ Aside0 (Row w' w.heap.size s3 (over gP x i)) ∧ Aside0 (Row w' w.heap.size s2 x) ∧ Aside0 (Longer w' w.heap.size s1 tG (over gM x x.length) ⟨-2, 0, 0, 0, 0⟩) ∧ Aside0 (Below w.heap.size w w')) (fun v13 _ => x.length - (intOf v13).toNat)
      case atStart => exact ⟨0, Nat.zero_le _, rfl, ⟨by rw [over_zero]; exact H3.out⟩, H2, HG, HB⟩
      case round =>
        have hls3 := H3.out.len
        have hx64 := HX.out.2.2
        clear H2 H3 HG HB
        obtain ⟨i, hi, rfl, H3, H2, HG, HB⟩ := hrel
        by_cases hlt : i < s3.2.1
        · obtain ⟨⟨q0, q1, q2, q3, q4⟩, ⟨f0, f1, f2, f3, f4⟩, _, hput⟩ := H3.out.elem (over_at (g := gP) (xs := x) (i := i) (by omega))
          have HP_ := Aside0.mk (hput (-5))
          have e_ : (over gP x i).set i ⟨(x[i]'(by omega)).f0, -5, (x[i]'(by omega)).f2, (x[i]'(by omega)).f3, (x[i]'(by omega)).f4⟩ = over gP x (i + 1) := over_set (g := gP) (by omega)
          rw [e_] at HP_
          have hge := H3.out.ge
          have hL := L3.out
          have hLG := LG.out
          have hk_ : Kept wr (wr.setCell ⟨s3.1, i * 5 + 1, none⟩ (.int .i64 (-5))) (fun q => q = s3.1) := Kept.of_grown HP_.out.2 (Kept.refl _ _) (fun q hq => .inl (Option.some.inj hq).symm)
          have N1 : Aside0 (Row (wr.setCell ⟨s3.1, i * 5 + 1, none⟩ (.int .i64 (-5))) w.heap.size s3 (over gP x (i + 1))) := ⟨HP_.out.1⟩
          have N2 : Aside0 (Row (wr.setCell ⟨s3.1, i * 5 + 1, none⟩ (.int .i64 (-5))) w.heap.size s2 x) := ⟨H2.out.kept hk_ (by omega)⟩
          have N4 : Aside0 (Longer (wr.setCell ⟨s3.1, i * 5 + 1, none⟩ (.int .i64 (-5))) w.heap.size s1 tG (over gM x x.length) ⟨-2, 0, 0, 0, 0⟩) := ⟨HG.out.kept hk_ (by omega) (by have := L12.out; omega)⟩
          have N3 : Aside0 (Below w.heap.size w (wr.setCell ⟨s3.1, i * 5 + 1, none⟩ (.int .i64 (-5)))) := ⟨pw_below_grown HB.out _ HB.out.size HP_.out.2 (fun q hq => by injection hq with hq; rw [← hq]; exact hge)⟩
          clear HP_ H3 H2 HB HG hput hk_
          go_wp2
          go_roundw
          case rel => exact ⟨i + 1, by omega, by go_num, N1, N2, N4, N3⟩
          case measure => simp [intOf]; omega
        · obtain rfl : i = s3.2.1 := by omega
          have n_ : Aside0 (Row wr w.heap.size s3 (over gP x x.length)) := ⟨by have h := H3.out; rw [← hls3] at h; exact h⟩
          clear H3
          have H3 := n_
          clear n_
          obtain ⟨w8, hw8⟩ : ∃ w8 : World, w8 = wr := ⟨_, rfl⟩
          subst hw8
          go_wp2_with (first | ((with_reducible refine gate_dst (N := 89) rfl ?_); refine goesL_ (some 89) rfl rfl Try.func16 (by kernel_rfl) rfl #[.string (a1 ++ (⟨#[126, 33]⟩ : ByteArray)), .string (b1 ++ (⟨#[33, 126]⟩ : ByteArray)), .int .i64 2, .int .i64 1] rfl (by (try simp only [List.map_toArray, List.map_cons, List.map_nil]); first | done | rfl) ?_; refine (between_row HX.out.1 HX.out.2.1).mono ?_; rintro e w9 ⟨s4, rfl, hk, hb⟩; refine ⟨_, rfl, ?_⟩; have hbb : Below w8.heap.size w8 w9 := below_step (by repeat (first | (with_reducible exact Below.refl _ _) | apply below_alloc | apply pw_below_drewN | apply below_drew1)) hb; have H4 := Aside0.mk (hk.lower (below_size (by repeat (first | (with_reducible first | exact HB.out | apply below_alloc | apply pw_below_drewN | apply below_drew1) | exact HB.out)))); have n_ := Aside0.mk (H2.out.below hbb); clear H2; have H2 := n_; clear n_; have n_ := Aside0.mk (HG.out.below hbb); clear HG; have HG := n_; clear n_; have n_ := Aside0.mk (H3.out.below hbb); clear H3; have H3 := n_; clear n_; have n_ := Aside0.mk (below_step HB.out hbb); clear HB; have HB := n_; clear n_; clear hk; clear hb hbb))
          unfold sv
          clear hls3
          go_loop [16] (fun v16 => ∃ i : Nat, i ≤ x.length ∧ v16 = .int .i64 i) (fun v16 => x.length - (intOf v16).toNat)
          case atStart => exact ⟨0, Nat.zero_le _, rfl⟩
          case round =>
            obtain ⟨i, hi, rfl⟩ := hrel
            have hx64 := HX.out.2.2
            have hold := HG.out.old
            have hls := hold.1
            rw [over_length] at hls
            by_cases hlt : i < s1.2.1
            · obtain ⟨y_, hy_⟩ : ∃ y_, (over gM x x.length)[i]? = some y_ := ⟨_, List.getElem?_eq_getElem (by rw [over_length]; omega)⟩
              obtain ⟨x_, rfl⟩ := over_done hy_
              obtain ⟨ad, ea, q0, q1, q2, q3, q4⟩ := C38_at hold hy_
              injection ea with ea
              subst ea
              rw [Go.WideShapes.add_plain, Nat.zero_add] at q0 q1 q2 q3 q4
              change World.cell? _ ⟨s1.1, i * 5, none⟩ = some (Value.int .i64 (-1)) at q0
              change World.cell? _ ⟨s1.1, i * 5 + 4, none⟩ = some (Value.int .i64 (-(i : Int))) at q4
              have z2 : ((-(i : Int)) != (-(i : Int))) = false := bne_self_eq_false _
              clear hy_ q1 q2 q3 hold
              go_wp2
              exact ⟨⟨i + 1, by omega, by go_num⟩, by simp [intOf]; omega⟩
            · obtain rfl : i = s1.2.1 := by omega
              clear hold
              go_wp2
              go_loop [17] (fun v17 => ∃ i : Nat, i ≤ x.length ∧ v17 = .int .i64 i) (fun v17 => x.length - (intOf v17).toNat)
              case atStart => exact ⟨0, Nat.zero_le _, rfl⟩
              case round =>
                obtain ⟨i, hi, rfl⟩ := hrel
                have hls3 := H3.out.len
                rw [over_length] at hls3
                by_cases hlt : i < s3.2.1
                · obtain ⟨y_, hy_⟩ : ∃ y_, (over gP x x.length)[i]? = some y_ := ⟨_, List.getElem?_eq_getElem (by rw [over_length]; omega)⟩
                  obtain ⟨x_, rfl⟩ := over_done hy_
                  obtain ⟨⟨q0, q1, q2, q3, q4⟩, _, _, _⟩ := H3.out.elem hy_
                  change World.cell? _ ⟨s3.1, i * 5 + 1, none⟩ = some (Value.int .i64 (-5)) at q1
                  clear hy_ q0 q2 q3 q4
                  go_wp2
                  exact ⟨⟨i + 1, by omega, by go_num⟩, by simp [intOf]; omega⟩
                · obtain rfl : i = s3.2.1 := by omega
                  clear H3
                  go_wp2_with (first | ((with_reducible refine gate_dst (N := 128) rfl ?_); refine goesL_ (some 128) rfl rfl Try.func18 (by kernel_rfl) rfl #[.string (a1 ++ (⟨#[126, 33]⟩ : ByteArray)), .string (b1 ++ (⟨#[33, 126]⟩ : ByteArray))] rfl (by (try simp only [List.map_toArray, List.map_cons, List.map_nil]); first | done | rfl) ?_; refine (twice_calls k _ _ x y _ HX.out HY.out HSX.out HSY.out).mono ?_; rintro e w10 ⟨rfl, hb⟩; refine ⟨_, rfl, ?_⟩; have hbb : Below w9.heap.size w9 w10 := below_step (by repeat (first | (with_reducible exact Below.refl _ _) | apply below_alloc | apply pw_below_drewN | apply below_drew1)) hb; have n_ := Aside0.mk (H2.out.below hbb); clear H2; have H2 := n_; clear n_; have n_ := Aside0.mk (HG.out.below hbb); clear HG; have HG := n_; clear n_; have n_ := Aside0.mk (H4.out.below hbb); clear H4; have H4 := n_; clear n_; have n_ := Aside0.mk (below_step HB.out hbb); clear HB; have HB := n_; clear n_; clear hb hbb) | ((with_reducible refine gate_dst (N := 140) rfl ?_); (refine gate_guard (by rfl) ?_; dsimp only); refine goesL_ (some 140) rfl rfl Try.func17 (by kernel_rfl) rfl #[sv s2, sv s4] rfl (by (try simp only [List.map_toArray, List.map_cons, List.map_nil]); first | done | rfl) ?_; refine (lines_row k (H2.out.below (by repeat (first | (with_reducible exact Below.refl _ _) | apply below_alloc | apply pw_below_drewN | apply below_drew1))) (H4.out.below (by repeat (first | (with_reducible exact Below.refl _ _) | apply below_alloc | apply pw_below_drewN | apply below_drew1))) HSX.out).mono ?_; rintro e w11 ⟨rfl, hb⟩; refine ⟨_, rfl, ?_⟩; have hbb : Below w10.heap.size w10 w11 := below_step (by repeat (first | (with_reducible exact Below.refl _ _) | apply below_alloc | apply pw_below_drewN | apply below_drew1)) hb; have n_ := Aside0.mk (H2.out.below hbb); clear H2; have H2 := n_; clear n_; have n_ := Aside0.mk (HG.out.below hbb); clear HG; have HG := n_; clear n_; have n_ := Aside0.mk (H4.out.below hbb); clear H4; have H4 := n_; clear n_; have n_ := Aside0.mk (below_step HB.out hbb); clear HB; have HB := n_; clear n_; obtain ⟨bG, cG, eG, hg0⟩ := longer_cell HG.out (by have := HG.out.old.1; omega); have hg1 : w11.cell? ⟨tG.1, s1.2.1 * 5, none⟩ = some (.int .i64 (-2)) := (by rw [eG]; exact hg0); have hg2 : tG.2.1 = s1.2.1 + 1 := (by rw [eG]); clear hg0 eG; clear hb hbb))
                  go_ret
                  exact ⟨rfl, HB.out⟩

end Go.Proofs.Ytjnciljimacblaa.G
