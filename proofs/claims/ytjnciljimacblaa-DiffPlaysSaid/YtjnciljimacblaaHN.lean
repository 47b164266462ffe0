/- diff.Between: what it answers, and the walk. Condition: the first number is one of Go's int. -/
import Derived.Test.YtjnciljimacblaaHQ
import Derived.Test.YtjnciljimacblaaHD
import Derived.Laws.EntriesVeiled
namespace Go.Proofs.Ytjnciljimacblaa.Q
open Go.RowKit Go.Proofs.YtjnciljimacblaaW.PrintWords Go.Proofs.YtjnciljimacblaaW.PrintLast Go.Proofs.YtjnciljimacblaaW.PrintMore
set_option linter.unusedVariables false
set_option linter.unusedSimpArgs false
set_option maxRecDepth 100000
def betweenS (a b : ByteArray) (c f : Int) : List S38 × Int :=
  if checkE a b ≠ 0 then ([], checkE a b) else if c < 1 ∨ c > 64 ∨ f < 1 then ([], 172) else if distS a b > 65 - f then ([], 172) else (opsI c f a b 0 0 0, 0)
def diff_Between.f (a0 a1 : ByteArray) (a2 a3 : Int) : Option (List S38 × Int) := if a3 ≤ 9223372036854775807 then some (betweenS a0 a1 a2 a3) else none
theorem binv_start {w0 W : World} (V : Vars) (client first : Int) (a b : ByteArray) {z : Value} (ht : BlkI .i16 W V.g 87 263169 (FO a b 0)) (hgo : W.heap[V.go]? = some (.cells #[.slice none 0 0] 33 (0, 0))) (hga : W.heap[V.ga]? = some (.cells #[.int .i64 0] 3 (0, 0)))
    (hgc : W.heap[V.gc]? = some (.cells #[.int .i64 client] 3 (0, 0))) (hgf : W.heap[V.gf]? = some (.cells #[.int .i64 first] 3 (0, 0))) (hgp : W.heap[V.gp]? = some (.cells #[z] 71 (0, 0))) (hb : Below w0.heap.size w0 W) (ge : w0.heap.size ≤ V.go ∧ w0.heap.size ≤ V.ga) (gep : w0.heap.size ≤ V.gp) (ne : V.ga ≠ V.gc ∧ V.ga ≠ V.gf) :
    BInv w0 V client first a b [] 0 (W.setCell ⟨V.gp, 0, none⟩ (putV V)) := by
  obtain ⟨C, fz, hC, _⟩ := ht.at_
  have hK : Kept W (W.setCell ⟨V.gp, 0, none⟩ (putV V)) (fun q => q = V.gp) := Kept.setCell (p := ⟨V.gp, 0, none⟩) (Kept.refl W (fun q => q = V.gp)) (.inl rfl) _
  exact ⟨ht.of_block hK.1 (hK.2 V.g ht.lt (blk_other hC hgp (by decide))), ⟨_, blk_kept hgo hK (blk_other hgo hgp (by decide)), Kd.R_nil _ _ _ _ _⟩, blk_kept hga hK (blk_other hga hgp (by decide)), blk_kept hgc hK (blk_other hgc hgp (by decide)), blk_kept hgf hK (blk_other hgf hgp (by decide)), one_setCell hgp, blk_below_set hb gep 0 _, ge, ne⟩
theorem ops_read {w0 W : World} {V : Vars} {client first : Int} {a b : ByteArray} {ops : List S38} {x : Int} (h : BInv w0 V client first a b ops x W) : ∃ v : Value, (∃ (A : Option Addr) (n c : Nat), v = .slice A n c) ∧ W.cell? ⟨V.go, 0, none⟩ = some v ∧ k38.R 38 W w0.heap.size (fun _ => True) v ops := by
  obtain ⟨v, h1, h2⟩ := h.row
  obtain ⟨A, c, rfl⟩ := Kd.R_slice h2
  exact ⟨_, ⟨A, _, c, rfl⟩, cell_of_one h1, h2⟩
theorem TT_le (a b : ByteArray) : TT a b 0 0 ≤ (a.size : Int) ∧ TT a b 0 0 ≤ (b.size : Int) := by
  have h1 := JotDiff.lcs_le_left (a.data.toList) (b.data.toList)
  have h2 := JotDiff.lcs_le_right (a.data.toList) (b.data.toList)
  rw [data_length] at h1 h2
  unfold TT
  rw [List.drop_zero, List.drop_zero]
  omega
theorem wrapI {n : Int} (h0 : -9223372036854775808 ≤ n) (h1 : n < 9223372036854775808) : IntKind.i64.wrap n = n := by
  have e1 : IntKind.i64.bits = 64 := rfl
  have e2 : IntKind.i64.signed = true := rfl
  simp only [IntKind.wrap, e1, e2]
  simp
  omega
/-- The blocks of the two numbers that Between was given. -/
structure Boxes (w0 : World) (gc gf : Nat) (client first : Int) (W : World) : Prop where
  cl : W.heap[gc]? = some (.cells #[.int .i64 client] 3 (0, 0))
  fi : W.heap[gf]? = some (.cells #[.int .i64 first] 3 (0, 0))
  below : Below w0.heap.size w0 W
theorem Boxes.next {w0 W W1 : World} {gc gf : Nat} {client first : Int} (h : Boxes w0 gc gf client first W) (hb : Below W.heap.size W W1) : Boxes w0 gc gf client first W1 :=
  ⟨(hb.block gc (blk_lt h.cl)).trans h.cl, (hb.block gf (blk_lt h.fi)).trans h.fi, below_step h.below hb⟩
/-- Behind 'at := 0', a store into a block of its own, and behind a new block. -/
theorem between_step {w W W1 : World} {g gc gf go ga : Nat} {client first : Int} {a b : ByteArray} (ht : BlkI .i16 W g 87 263169 (FO a b 0)) (hx : Boxes w gc gf client first W) (hgo : W.heap[go]? = some (.cells #[.slice none 0 0] 33 (0, 0))) (hga : W.heap[ga]? = some (.cells #[.int .i64 0] 3 (0, 0))) (ge : w.heap.size ≤ ga ∧ ga ≠ gc ∧ ga ≠ gf)
    (hb : Below (W.setCell ⟨ga, 0, none⟩ (.int .i64 0)).heap.size (W.setCell ⟨ga, 0, none⟩ (.int .i64 0)) W1) : BlkI .i16 W1 g 87 263169 (FO a b 0) ∧ Boxes w gc gf client first W1 ∧ W1.heap[go]? = some (.cells #[.slice none 0 0] 33 (0, 0)) ∧ W1.heap[ga]? = some (.cells #[.int .i64 0] 3 (0, 0)) ∧ w.heap.size ≤ (W.setCell ⟨ga, 0, none⟩ (.int .i64 0)).heap.size := by
  obtain ⟨C, fz, hC, _⟩ := ht.at_
  have hK : Kept W (W.setCell ⟨ga, 0, none⟩ (.int .i64 0)) (fun q => q = ga) := Kept.setCell (p := ⟨ga, 0, none⟩) (Kept.refl W (fun q => q = ga)) (.inl rfl) _
  have h1 : BlkI .i16 (W.setCell ⟨ga, 0, none⟩ (.int .i64 0)) g 87 263169 (FO a b 0) := ht.of_block hK.1 (hK.2 g ht.lt (blk_other hC hga (by decide)))
  have h2 : Boxes w gc gf client first (W.setCell ⟨ga, 0, none⟩ (.int .i64 0)) := ⟨blk_kept hx.cl hK (Ne.symm ge.2.1), blk_kept hx.fi hK (Ne.symm ge.2.2), blk_below_set hx.below ge.1 0 _⟩
  have h3 := blk_kept hgo hK (blk_other hgo hga (by decide))
  have h4 := one_setCell (u := Value.int .i64 0) hga
  exact ⟨h1.below hb, h2.next hb, (hb.block go (blk_lt h3)).trans h3, (hb.block ga (blk_lt h4)).trans h4, h2.below.size⟩
set_option maxHeartbeats 8000000 in
theorem diff_Between.calls (a0 a1 : ByteArray) (a2 a3 : Int) (r1 : List S38) (r2 : Int) (w : World) (h : diff_Between.f a0 a1 a2 a3 = some (r1, r2)) :
    Calls Try.prog 16 #[.string a0, .string a1, .int .i64 a2, .int .i64 a3] w fun e w' => ∃ v0_ : Value, e = .returned (.tuple #[v0_, .int .i64 r2]) ∧ Kd.R k38 38 w' w.heap.size (fun _ => True) v0_ r1 ∧ Below w.heap.size w w' := by
  unfold diff_Between.f at h
  by_cases h3 : a3 ≤ 9223372036854775807
  case neg => rw [if_neg h3] at h; cases h
  rw [if_pos h3] at h
  have h := Option.some.inj h
  unfold betweenS at h
  have HB := Aside0.mk (Below.refl w.heap.size w)
  by_cases hE : checkE a0 a1 = 0
  case neg =>
    rw [if_pos hE] at h
    obtain ⟨rfl, hr2⟩ : ([] : List S38) = r1 ∧ checkE a0 a1 = r2 := ⟨congrArg Prod.fst h, congrArg Prod.snd h⟩
    have HM : Aside0 (∀ w, Calls Try.prog 29 #[.string a0, .string a1] w fun e w' => e = .returned (.tuple #[.pointer none, .int .i64 r2]) ∧ Below w.heap.size w w') := ⟨fun w => by have := measured_err a0 a1 w hE; rw [hr2] at this; exact this⟩
    have t2 : (r2 == 0) = false := by rw [← hr2]; simpa using hE
    have t3 : (r2 != 0) = true := by rw [← hr2]; simpa using hE
    clear h hE hr2
    go_enter Try.func16, Try.ntmps16
    go_wp2_with (first
      | ((with_reducible refine gate_dst (N := 6) rfl ?_); refine box_event ?hg (N := 6) ?hd (cs := #[.int .i64 a2]) (t := 3) ?hr ?_; (case hd => rfl); (case hg => rfl); (case hr => first | (go_simp; done) | (go_simp; rfl)); intro gc hg w1 hbox hb; have n_ := Aside0.mk (below_step HB.out hb); clear HB hb hg hbox; have HB := n_; clear n_)
      | ((with_reducible refine gate_dst (N := 7) rfl ?_); refine box_event ?hg (N := 7) ?hd (cs := #[.int .i64 a3]) (t := 3) ?hr ?_; (case hd => rfl); (case hg => rfl); (case hr => first | (go_simp; done) | (go_simp; rfl)); intro gf hg w2 hbox hb; have n_ := Aside0.mk (below_step HB.out hb); clear HB hb hg hbox; have HB := n_; clear n_)
      | ((with_reducible refine gate_dst (N := 18) rfl ?_); refine goesL_ (some 18) rfl rfl Try.func29 (by kernel_rfl) rfl #[.string a0, .string a1] rfl (by (try simp only [List.map_toArray, List.map_cons, List.map_nil]); first | done | rfl) ?_; refine (HM.out _).mono ?_; rintro e w3 ⟨rfl, hbl⟩; refine ⟨_, rfl, ?_⟩; have n_ := Aside0.mk (below_step HB.out hbl); clear HB hbl; have HB := n_; clear n_))
    go_ret2
    exact ⟨_, rfl, Kd.R_nil _ _ _ _ _, HB.out⟩
  rw [if_neg (by omega)] at h
  obtain ⟨ha, hb⟩ := check_short hE
  have hr := TT_range a0 a1 0 0 ha
  have HM : Aside0 (∀ w, Calls Try.prog 29 #[.string a0, .string a1] w fun e w' => ∃ g, e = .returned (.tuple #[.pointer (some ⟨g, 0, none⟩), .int .i64 0]) ∧ w.heap.size ≤ g ∧ BlkI .i16 w' g 87 263169 (FO a0 a1 0) ∧ Below w.heap.size w w') := ⟨fun w => measured_calls a0 a1 w hE⟩
  obtain ⟨x, hx⟩ : ∃ x, x = TT a0 a1 0 0 := ⟨_, rfl⟩
  have e0 : FO a0 a1 0 0 = x := by unfold FO; rw [if_pos (by omega), hx]
  have hD : distS a0 a1 = (a0.size : Int) + (a1.size : Int) - 2 * x := by unfold distS; rw [hx]
  have HE := Aside0.mk e0
  rw [← hx] at hr
  rw [hD] at h
  clear hE e0 hx hD
  go_enter Try.func16, Try.ntmps16
  go_upto_region 4 with (first
    | ((with_reducible refine gate_dst (N := 6) rfl ?_); refine box_event ?hg (N := 6) ?hd (cs := #[.int .i64 a2]) (t := 3) ?hr ?_; (case hd => rfl); (case hg => rfl); (case hr => first | (go_simp; done) | (go_simp; rfl)); intro gc hg w1 hbox hbl; have HC := Aside0.mk hbox; have n_ := Aside0.mk (below_step HB.out hbl); clear HB hbl hg hbox; have HB := n_; clear n_)
    | ((with_reducible refine gate_dst (N := 7) rfl ?_); refine box_event ?hg (N := 7) ?hd (cs := #[.int .i64 a3]) (t := 3) ?hr ?_; (case hd => rfl); (case hg => rfl); (case hr => first | (go_simp; done) | (go_simp; rfl)); intro gf hg w2 hbox hbl; have HX : Aside0 (Boxes w gc gf a2 a3 w2) := ⟨⟨(hbl.block gc (blk_lt HC.out)).trans HC.out, hbox, below_step HB.out hbl⟩⟩; clear HB HC hbl hg hbox)
    | ((with_reducible refine gate_dst (N := 18) rfl ?_); refine goesL_ (some 18) rfl rfl Try.func29 (by kernel_rfl) rfl #[.string a0, .string a1] rfl (by (try simp only [List.map_toArray, List.map_cons, List.map_nil]); first | done | rfl) ?_; refine (HM.out _).mono ?_; rintro e w3 ⟨g, rfl, hg, ht, hbl⟩; refine ⟨_, rfl, ?_⟩; have HT := Aside0.mk ht; have n_ := Aside0.mk (HX.out.next hbl); clear HX hbl hg ht; have HX := n_; clear n_))
  have d1 := cell_of_one HX.out.cl
  have d2 := cell_of_one HX.out.fi
  have d0 := HT.out.cell (j := 0) (by omega)
  rw [HE.out] at d0
  have f1 : a2 < 1 ∨ a2 > 64 ∨ a3 < 1 → r1 = [] ∧ r2 = 172 := fun hc => by rw [if_pos hc] at h; exact ⟨(congrArg Prod.fst h).symm, (congrArg Prod.snd h).symm⟩
  by_cases c1 : a2 < 1
  · obtain ⟨rfl, rfl⟩ := f1 (.inl c1)
    have t1 : decide (a2 < 1) = true := decide_eq_true c1
    clear h f1 c1
    go_wp2
    go_ret2
    exact ⟨_, rfl, Kd.R_nil _ _ _ _ _, HX.out.below⟩
  have t1 : decide (a2 < 1) = false := decide_eq_false c1
  by_cases c2 : a2 > 64
  · obtain ⟨rfl, rfl⟩ := f1 (.inr (.inl c2))
    have t2 : decide (a2 > 64) = true := decide_eq_true c2
    have t3 : decide (64 < a2) = true := decide_eq_true c2
    clear h f1 c1 c2
    go_wp2
    go_ret2
    exact ⟨_, rfl, Kd.R_nil _ _ _ _ _, HX.out.below⟩
  have t2 : decide (a2 > 64) = false := decide_eq_false c2
  have t3 : decide (64 < a2) = false := decide_eq_false c2
  by_cases c3 : a3 < 1
  · obtain ⟨rfl, rfl⟩ := f1 (.inr (.inr c3))
    have t4 : decide (a3 < 1) = true := decide_eq_true c3
    clear h f1 c1 c2 c3
    go_wp2
    go_ret2
    exact ⟨_, rfl, Kd.R_nil _ _ _ _ _, HX.out.below⟩
  have t4 : decide (a3 < 1) = false := decide_eq_false c3
  rw [if_neg (by omega)] at h
  clear f1
  have q1 : IntKind.i64.wrap ((a0.size : Int) + (a1.size : Int)) = (a0.size : Int) + (a1.size : Int) := wrapI (by omega) (by omega)
  have q2 : IntKind.i64.wrap (2 * x) = 2 * x := wrapI (by omega) (by omega)
  have q3 : IntKind.i64.wrap ((a0.size : Int) + (a1.size : Int) - 2 * x) = (a0.size : Int) + (a1.size : Int) - 2 * x := wrapI (by omega) (by omega)
  have q4 : IntKind.i64.wrap (65 - a3) = 65 - a3 := wrapI (by omega) (by omega)
  obtain ⟨D, hD⟩ : ∃ D, D = (a0.size : Int) + (a1.size : Int) - 2 * x := ⟨_, rfl⟩
  have H := Aside0.mk h
  have HD := Aside0.mk hD
  clear h hD
  go_wp2
  go_quiet (fail)
  have n1 : Aside0 (BlkI .i16 (w3.drewN nq) g 87 263169 (FO a0 a1 0)) := ⟨HT.out.of_block (Nat.le_refl _) rfl⟩
  have n2 : Aside0 (Boxes w gc gf a2 a3 (w3.drewN nq)) := ⟨⟨HX.out.cl, HX.out.fi, by apply pw_below_drewN; exact HX.out.below⟩⟩
  clear HT HX d0 d1 d2
  have HT := n1
  have HX := n2
  clear n1 n2
  generalize w3.drewN nq = w4 at HT HX ⊢
  by_cases c4 : 65 - a3 < (a0.size : Int) + (a1.size : Int) - 2 * x
  · have h4 := H.out
    rw [if_pos c4] at h4
    obtain ⟨rfl, rfl⟩ : ([] : List S38) = r1 ∧ (172 : Int) = r2 := ⟨congrArg Prod.fst h4, congrArg Prod.snd h4⟩
    have t5 : decide (65 - a3 < (a0.size : Int) + (a1.size : Int) - 2 * x) = true := decide_eq_true c4
    have t6 : decide ((a0.size : Int) + (a1.size : Int) - 2 * x > 65 - a3) = true := decide_eq_true c4
    clear h4 c1 c2 c3
    go_wp2
    go_ret2
    exact ⟨_, rfl, Kd.R_nil _ _ _ _ _, HX.out.below⟩
  · have h4 := H.out
    rw [if_neg c4] at h4
    obtain ⟨hr1, rfl⟩ : opsI a2 a3 a0 a1 0 0 0 = r1 ∧ (0 : Int) = r2 := ⟨congrArg Prod.fst h4, congrArg Prod.snd h4⟩
    have HR1 := Aside0.mk hr1
    have t5 : decide (65 - a3 < (a0.size : Int) + (a1.size : Int) - 2 * x) = false := decide_eq_false c4
    have t6 : decide ((a0.size : Int) + (a1.size : Int) - 2 * x > 65 - a3) = false := decide_eq_false c4
    have hf : 0 ≤ a3 ∧ a3 ≤ 1000 := by
      have hl := TT_le a0 a1
      have := HE.out
      unfold FO at this
      rw [if_pos (by omega)] at this
      have e : x = TT a0 a1 0 0 := this.symm
      omega
    have c5 : (a0.size : Int) + (a1.size : Int) - 2 * x ≤ 65 - a3 := by omega
    clear h4 hr1 c1 c2 c3 c4
    go_wp2_with (first
      | ((with_reducible refine gate_dst (N := 12) rfl ?_); refine box_event ?hg (N := 12) ?hd (cs := #[.slice none 0 0]) (t := 33) ?hr ?_; (case hd => rfl); (case hg => rfl); (case hr => first | (go_simp; done) | (go_simp; rfl)); intro go hg w5 hbox hbl; have GO := Aside0.mk hbox; have GE : Aside0 (w.heap.size ≤ go) := ⟨by rw [hg]; exact HX.out.below.size⟩; have n1 := Aside0.mk (HT.out.below hbl); have n2 := Aside0.mk (HX.out.next hbl); clear HT HX hbl hg hbox; have HT := n1; have HX := n2; clear n1 n2)
      | ((with_reducible refine gate_dst (N := 13) rfl ?_); refine box_event ?hg (N := 13) ?hd (cs := #[.int .i64 0]) (t := 3) ?hr ?_; (case hd => rfl); (case hg => rfl); (case hr => first | (go_simp; done) | (go_simp; rfl)); intro ga hg w6 hbox hbl; have GA := Aside0.mk hbox; have GE2 : Aside0 (w.heap.size ≤ ga ∧ ga ≠ gc ∧ ga ≠ gf) := ⟨⟨by rw [hg]; exact HX.out.below.size, by have := blk_lt HX.out.cl; omega, by have := blk_lt HX.out.fi; omega⟩⟩; have g1 := cell_of_one hbox; have g2 := free_of_one hbox; have n1 := Aside0.mk (HT.out.below hbl); have n2 := Aside0.mk (HX.out.next hbl); have n3 := Aside0.mk ((hbl.block go (blk_lt GO.out)).trans GO.out); clear HT HX GO hbl hg hbox; have HT := n1; have HX := n2; have GO := n3; clear n1 n2 n3)
      | ((with_reducible refine gate_dst (N := 14) rfl ?_); refine box_event ?hg (N := 14) ?hd (cs := #[.nilFunc]) (t := 71) ?hr ?_; (case hd => rfl); (case hg => rfl); (case hr => first | (go_simp; done) | (go_simp; rfl)); intro gp hg w7 hbox hbl; have GP := Aside0.mk hbox; obtain ⟨n1, n2, n3, n4, n5⟩ := between_step HT.out HX.out GO.out GA.out GE2.out hbl; have GE3 : Aside0 (w.heap.size ≤ gp) := ⟨by rw [hg]; exact n5⟩; have g3 := cell_of_one hbox; have g4 := free_of_one hbox; clear HT HX GO GA hbl hg hbox; have HT := Aside0.mk n1; have HX := Aside0.mk n2; have GO := Aside0.mk n3; have GA := Aside0.mk n4; clear n1 n2 n3 n4 n5)
      | (go_at_call 30; refine (walk30b w _ ⟨g, gc, gf, go, ga, gp⟩ a2 a3 a0 a1 ha hb hf (binv_start ⟨g, gc, gf, go, ga, gp⟩ a2 a3 a0 a1 HT.out GO.out GA.out HX.out.cl HX.out.fi GP.out HX.out.below ⟨GE.out, GE2.out.1⟩ GE3.out GE2.out.2)).mono ?_; rintro e w8 ⟨rfl, x8, h8⟩; obtain ⟨v8, ⟨A8, n8, c8, hv8⟩, k8, r8⟩ := ops_read h8; have HI := Aside0.mk (And.intro r8 h8.below); clear r8 h8))
    go_ret2
    exact ⟨v8, by rw [hv8]; rfl, by rw [← HR1.out]; exact HI.out.1, HI.out.2⟩
end Go.Proofs.Ytjnciljimacblaa.Q
