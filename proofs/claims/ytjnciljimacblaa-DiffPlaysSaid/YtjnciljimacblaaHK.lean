/- diff.Common: its function values (a character kept), each by a contract of its own. No condition. -/
import Derived.Test.YtjnciljimacblaaHB
import Derived.OneCell
namespace Go.Proofs.Ytjnciljimacblaa.Q
open Go.RowKit Go.Proofs.YtjnciljimacblaaW.PrintWords Go.Proofs.YtjnciljimacblaaW.PrintLast Go.Proofs.YtjnciljimacblaaW.PrintMore
set_option linter.unusedVariables false
set_option linter.unusedSimpArgs false
set_option maxRecDepth 100000
theorem own_ne {W : World} {base : Nat} {ok : Nat → Prop} {v : Value} {xs : List Int} {g t : Nat} {C : Array Value} {fz : Nat × Nat} (h : (Kd.int .u8).R 5 W base ok v xs) (hb : W.heap[g]? = some (.cells C t fz)) (ht : t ≠ 5) : some g ≠ v.ownBlock := by
  intro e
  obtain ⟨cells, hc⟩ := Kd.R_typed h g e.symm
  rw [hb] at hc
  injection hc with hc
  injection hc with _ h2 _
  exact ht h2
/-- What is kept while Common walks: the table, the captured variable's block, the row in it, the elder memory. -/
structure CInv (w0 : World) (g gk : Nat) (a b : ByteArray) (xs : List Int) (W : World) : Prop where
  tab : BlkI .i16 W g 87 263169 (FO a b 0)
  row : ∃ v, W.heap[gk]? = some (.cells #[v] 49 (0, 0)) ∧ (Kd.int .u8).R 5 W w0.heap.size (fun _ => True) v xs
  below : Below w0.heap.size w0 W
  ge : w0.heap.size ≤ gk
theorem BlkI.grown {k : IntKind} {W W1 : World} {g t n : Nat} {f : Nat → Int} (h : BlkI k W g t n f) {row : Option Nat} (hg : W.grownBy W1 row) (hne : some g ≠ row) : BlkI k W1 g t n f := h.of_block hg.size (hg.block g h.lt hne)
set_option maxHeartbeats 2000000 in
theorem keep31 (w0 W : World) (g gk : Nat) (a b : ByteArray) (xs : List Int) (c : Int) (h : CInv w0 g gk a b xs W) (hl : xs.length ≤ 6000) :
    Calls Try.prog 31 #[.int .u8 c, .pointer (some ⟨gk, 0, none⟩)] W fun e w' => e = .returned (.tuple #[]) ∧ CInv w0 g gk a b (xs ++ [c]) w' := by
  obtain ⟨htab, ⟨v, hbox, hrow⟩, hbel, hge⟩ := h
  obtain ⟨C, fz, hC, _⟩ := htab.at_
  have hgk := cell_of_one hbox
  have hfz := free_of_one hbox
  have n1 := own_ne hrow hC (by decide)
  have n2 := own_ne hrow hbox (by decide)
  have n3 : g ≠ gk := by
    intro e
    subst e
    rw [hC] at hbox
    injection hbox with hbox
    injection hbox with _ h2 _
    cases h2
  have HT := Aside0.mk htab
  have HX := Aside0.mk hbox
  have HR := Aside0.mk hrow
  have HB := Aside0.mk hbel
  have N := Aside0.mk (And.intro n1 (And.intro n2 n3))
  clear htab hbox hrow hbel hC n1 n2 n3
  go_enter Try.func31, Try.ntmps31
  go_wp2_with (at_builtin; refine Kd.R_append (Kd.int .u8) (w0 := w0) w0.heap.size rfl (.tmp 3) (.tmp 5) 49 5 (.int .u8 0) 1 rfl Try.underlying49 info5 rfl (by decide) (by omega) v xs c [.int .u8 c] (fun _ => True) (fun _ => False) rfl rfl ?aP (fun _ hk => hk.elim) ?aF HR.out HB.out HB.out.size ?aL ?_; (case aP => exact rfl); (case aF => exact (fun _ _ => trivial)); (case aL => omega); intro v1 w1 ho hb hg hat; obtain ⟨A1, q1, e1⟩ := Kd.R_slice ho; subst e1; have c1 := cell_of_one (blk_grown HX.out hg N.out.2.1); have f1 := free_of_one (blk_grown HX.out hg N.out.2.1); have HX1 := Aside0.mk (blk_grown HX.out hg N.out.2.1); have HT1 := Aside0.mk (HT.out.grown hg N.out.1); have HR1 := Aside0.mk ho; have HB1 := Aside0.mk hb; clear ho hb hg hat)
  first | go_end0 | ((try simp only [Exit.inBlock, Exit.then]); refine bodyPost_ret (results_none rfl _ _ _) rfl ?_)
  have M := own_ne HR1.out HX1.out (by decide)
  have HR2 := HR1.out
  rw [List.length_append, List.length_singleton] at HR2
  have hK : Kept w1 (w1.setCell ⟨gk, 0, none⟩ (.slice A1 (xs.length + 1) q1)) (fun q => q = gk) := Kept.setCell (p := ⟨gk, 0, none⟩) (Kept.refl w1 (fun q => q = gk)) (.inl rfl) _
  rw [List.length_append, List.length_singleton] at M
  refine ⟨rfl, HT1.out.of_block hK.1 (hK.2 g HT1.out.lt N.out.2.2), ⟨_, one_setCell HX1.out, ?_⟩, blk_below_set HB1.out hge 0 _, hge⟩
  exact Kd.R_mono (Kd.R_kept (Kd.R_tight rfl HR2) hK (fun q hq e => M (by rw [← e]; exact hq))) (fun _ _ => trivial)
theorem keep32 (W : World) : Calls Try.prog 32 #[] W fun e w' => e = .returned (.tuple #[]) ∧ w' = W := by
  go_enter Try.func32, Try.ntmps32
  go_wp2
  first | go_end0 | ((try simp only [Exit.inBlock, Exit.then]); refine bodyPost_ret (results_none rfl _ _ _) rfl ?_)
  exact ⟨rfl, rfl⟩
theorem keep33 (W : World) (c : Int) : Calls Try.prog 33 #[.int .u8 c] W fun e w' => e = .returned (.tuple #[]) ∧ w' = W := by
  go_enter Try.func33, Try.ntmps33
  go_wp2
  first | go_end0 | ((try simp only [Exit.inBlock, Exit.then]); refine bodyPost_ret (results_none rfl _ _ _) rfl ?_)
  exact ⟨rfl, rfl⟩
/-- What Common hands back. -/
def keptI (a b : ByteArray) (i j : Nat) : List Int := (JotDiff.keptL (a.data.toList.drop i) (b.data.toList.drop j)).map (fun u => (u.toNat : Int))
theorem keptI_end1 (a b : ByteArray) (i j : Nat) (h : a.size ≤ i) : keptI a b i j = [] := by
  unfold keptI
  rw [List.drop_of_length_le (by rw [data_length]; exact h), JotDiff.kept_nil_left]
  rfl
theorem keptI_end2 (a b : ByteArray) (i j : Nat) (h : b.size ≤ j) : keptI a b i j = [] := by
  unfold keptI
  rw [List.drop_of_length_le (l := b.data.toList) (by rw [data_length]; exact h), JotDiff.kept_nil_right]
  rfl
theorem keptI_step (a b : ByteArray) {i j : Nat} (hi : i < a.size) (hj : j < b.size) :
    keptI a b i j = if a[i] = b[j] then (a[i].toNat : Int) :: keptI a b (i + 1) (j + 1) else if TT a b (i + 1) j = TT a b i j then keptI a b (i + 1) j else keptI a b i (j + 1) := by
  have h1 : i < a.data.toList.length := by rw [data_length]; exact hi
  have h2 : j < b.data.toList.length := by rw [data_length]; exact hj
  have e1 : a.data.toList[i] = a[i] := rfl
  have e2 : b.data.toList[j] = b[j] := rfl
  have d1 := List.drop_eq_getElem_cons h1
  have d2 := List.drop_eq_getElem_cons h2
  rw [e1] at d1
  rw [e2] at d2
  unfold keptI TT
  rw [d1, d2, JotDiff.kept_cons]
  by_cases e : a[i] = b[j]
  · rw [if_pos e, if_pos e, List.map_cons]
  · rw [if_neg e, if_neg e]
    by_cases e3 : JotDiff.lcs (a.data.toList.drop (i + 1)) (b[j] :: b.data.toList.drop (j + 1)) = JotDiff.lcs (a[i] :: a.data.toList.drop (i + 1)) (b[j] :: b.data.toList.drop (j + 1))
    · rw [if_pos e3, if_pos (by omega)]
    · rw [if_neg e3, if_neg (by omega)]
theorem FO_at (a b : ByteArray) {i j : Nat} (hj : j < 513) : FO a b 0 (i * 513 + j) = TT a b i j := by
  unfold FO
  rw [if_pos (Nat.zero_le _), show (i * 513 + j) / 513 = i by omega, show (i * 513 + j) % 513 = j by omega]
theorem CInv.drew {w0 W : World} {g gk : Nat} {a b : ByteArray} {xs : List Int} (h : CInv w0 g gk a b xs W) (n : Nat) : CInv w0 g gk a b xs (W.drewN n) := by
  obtain ⟨h1, ⟨v, h2, h3⟩, h4, h5⟩ := h
  exact ⟨h1.of_block (Nat.le_refl _) rfl, ⟨v, h2, Kd.R_drewN h3 n⟩, by apply pw_below_drewN; exact h4, h5⟩
end Go.Proofs.Ytjnciljimacblaa.Q
