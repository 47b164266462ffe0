/- diff.Between: its function values, each by a contract of its own. No condition but the numbers' bounds. -/
import Derived.Test.YtjnciljimacblaaHK
namespace Go.Proofs.Ytjnciljimacblaa.Q
open Go.RowKit Go.Proofs.YtjnciljimacblaaW.PrintWords Go.Proofs.YtjnciljimacblaaW.PrintLast Go.Proofs.YtjnciljimacblaaW.PrintMore
set_option linter.unusedVariables false
set_option linter.unusedSimpArgs false
set_option maxRecDepth 100000
theorem info38h : (Try.prog.info? 38).map (fun i => (i.zero, i.size, i.bytes)) = some (some (.agg #[(.int .i64 0), (.int .i64 0), (.int .u8 0), (.int .i64 0), (.int .i64 0)]), 5, 40) := by kernel_rfl
theorem own_ne38 {W : World} {base : Nat} {ok : Nat → Prop} {v : Value} {xs : List S38} {g t : Nat} {C : Array Value} {fz : Nat × Nat} (h : k38.R 38 W base ok v xs) (hb : W.heap[g]? = some (.cells C t fz)) (ht : t ≠ 38) : some g ≠ v.ownBlock := by
  intro e
  obtain ⟨cells, hc⟩ := Kd.R_typed h g e.symm
  rw [hb] at hc
  injection hc with hc
  injection hc with _ h2 _
  exact ht h2
/-- The variables that Between's function values share: their blocks. -/
structure Vars where
  g : Nat
  gc : Nat
  gf : Nat
  go : Nat
  ga : Nat
  gp : Nat
def putV (V : Vars) : Value := .func (.func 34) #[] #[.pointer (some ⟨V.go, 0, none⟩), .pointer (some ⟨V.ga, 0, none⟩), .pointer (some ⟨V.gc, 0, none⟩), .pointer (some ⟨V.gf, 0, none⟩)]
/-- What stands while Between walks. -/
structure BInv (w0 : World) (V : Vars) (client first : Int) (a b : ByteArray) (ops : List S38) (at_ : Int) (W : World) : Prop where
  tab : BlkI .i16 W V.g 87 263169 (FO a b 0)
  row : ∃ v, W.heap[V.go]? = some (.cells #[v] 33 (0, 0)) ∧ k38.R 38 W w0.heap.size (fun _ => True) v ops
  pos : W.heap[V.ga]? = some (.cells #[.int .i64 at_] 3 (0, 0))
  cl : W.heap[V.gc]? = some (.cells #[.int .i64 client] 3 (0, 0))
  fi : W.heap[V.gf]? = some (.cells #[.int .i64 first] 3 (0, 0))
  pu : W.heap[V.gp]? = some (.cells #[putV V] 71 (0, 0))
  below : Below w0.heap.size w0 W
  ge : w0.heap.size ≤ V.go ∧ w0.heap.size ≤ V.ga
  ne : V.ga ≠ V.gc ∧ V.ga ≠ V.gf
theorem blk_other {W : World} {g g' t t' : Nat} {C C' : Array Value} {fz fz' : Nat × Nat} (h : W.heap[g]? = some (.cells C t fz)) (h' : W.heap[g']? = some (.cells C' t' fz')) (hne : t ≠ t') : g ≠ g' := by
  intro e
  subst e
  rw [h] at h'
  injection h' with h'
  injection h' with _ h2 _
  exact hne h2
set_option maxHeartbeats 4000000 in
theorem put34 (w0 W : World) (V : Vars) (client first : Int) (a b : ByteArray) (ops : List S38) (at_ : Int) (kind ch : Int) (h : BInv w0 V client first a b ops at_ W) (hl : ops.length ≤ 2000) (hf : 0 ≤ first ∧ first ≤ 1000) :
    Calls Try.prog 34 #[.int .i64 kind, .int .u8 ch, .pointer (some ⟨V.go, 0, none⟩), .pointer (some ⟨V.ga, 0, none⟩), .pointer (some ⟨V.gc, 0, none⟩), .pointer (some ⟨V.gf, 0, none⟩)] W fun e w' =>
      e = .returned (.tuple #[]) ∧ BInv w0 V client first a b (ops ++ [⟨kind, at_, ch, client, first + (ops.length : Int)⟩]) at_ w' := by
  obtain ⟨htab, ⟨v, hbox, hrow⟩, hpos, hcl, hfi, hpu, hbel, hge, hne⟩ := h
  obtain ⟨C, fz, hC, _⟩ := htab.at_
  obtain ⟨Av, cv, rfl⟩ := Kd.R_slice hrow
  have c1 := cell_of_one hbox
  have c2 := cell_of_one hpos
  have c3 := cell_of_one hcl
  have c4 := cell_of_one hfi
  have HT := Aside0.mk htab
  have HX := Aside0.mk hbox
  have HR := Aside0.mk hrow
  have HB := Aside0.mk hbel
  have HV := Aside0.mk (And.intro hpos (And.intro hcl (And.intro hfi hpu)))
  have N := Aside0.mk (And.intro (own_ne38 hrow hC (by decide)) (And.intro (own_ne38 hrow hbox (by decide)) (And.intro (own_ne38 hrow hpos (by decide)) (And.intro (own_ne38 hrow hcl (by decide)) (And.intro (own_ne38 hrow hfi (by decide)) (own_ne38 hrow hpu (by decide)))))))
  have D := Aside0.mk (And.intro (blk_other hC hbox (by decide)) (And.intro (blk_other hpos hbox (by decide)) (And.intro (blk_other hcl hbox (by decide)) (And.intro (blk_other hfi hbox (by decide)) (blk_other hpu hbox (by decide))))))
  have q1 : IntKind.i64.wrap (first + (ops.length : Int)) = first + (ops.length : Int) := wrap_small _ (by omega) (by omega)
  clear htab hbox hrow hbel hpos hcl hfi hpu hC
  go_enter Try.func34, Try.ntmps34
  go_wp2_with (at_builtin; refine Kd.R_append k38 (w0 := w0) w0.heap.size rfl (.tmp 8) (.tmp 18) 33 38 (.agg #[(.int .i64 0), (.int .i64 0), (.int .u8 0), (.int .i64 0), (.int .i64 0)]) 40 rfl Try.underlying33 info38h rfl (by decide) (by omega) (.slice Av ops.length cv) ops (⟨kind, at_, ch, client, first + (ops.length : Int)⟩ : S38) [.int .i64 kind, .int .i64 at_, .int .u8 ch, .int .i64 client, .int .i64 (first + (ops.length : Int))] (fun _ => True) (fun _ => False) rfl rfl ?aP (fun _ hk => hk.elim) ?aF HR.out HB.out HB.out.size ?aL ?_; (case aP => exact k38_mkM _ _ _ (⟨kind, at_, ch, client, first + (ops.length : Int)⟩ : S38)); (case aF => exact (fun _ _ => trivial)); (case aL => omega); intro v1 w1 ho hb hg hat; obtain ⟨A1, q1, e1⟩ := Kd.R_slice ho; subst e1; have c1 := cell_of_one (blk_grown HX.out hg N.out.2.1); have f1 := free_of_one (blk_grown HX.out hg N.out.2.1); have HX1 := Aside0.mk (blk_grown HX.out hg N.out.2.1); have HT1 := Aside0.mk (HT.out.grown hg N.out.1); have HV1 := Aside0.mk (And.intro (blk_grown HV.out.1 hg N.out.2.2.1) (And.intro (blk_grown HV.out.2.1 hg N.out.2.2.2.1) (And.intro (blk_grown HV.out.2.2.1 hg N.out.2.2.2.2.1) (blk_grown HV.out.2.2.2 hg N.out.2.2.2.2.2)))); have HR1 := Aside0.mk ho; have HB1 := Aside0.mk hb; clear ho hb hg hat)
  first | go_end0 | ((try simp only [Exit.inBlock, Exit.then]); refine bodyPost_ret (results_none rfl _ _ _) rfl ?_)
  have M := own_ne38 HR1.out HX1.out (by decide)
  have HR2 := HR1.out
  rw [List.length_append, List.length_singleton] at HR2
  rw [List.length_append, List.length_singleton] at M
  have hK : Kept w1 (w1.setCell ⟨V.go, 0, none⟩ (.slice A1 (ops.length + 1) q1)) (fun q => q = V.go) := Kept.setCell (p := ⟨V.go, 0, none⟩) (Kept.refl w1 (fun q => q = V.go)) (.inl rfl) _
  exact ⟨rfl, HT1.out.of_block hK.1 (hK.2 V.g HT1.out.lt D.out.1), ⟨_, one_setCell HX1.out, Kd.R_mono (Kd.R_kept (Kd.R_tight rfl HR2) hK (fun q hq e => M (by rw [← e]; exact hq))) (fun _ _ => trivial)⟩, blk_kept HV1.out.1 hK D.out.2.1, blk_kept HV1.out.2.1 hK D.out.2.2.1, blk_kept HV1.out.2.2.1 hK D.out.2.2.2.1, blk_kept HV1.out.2.2.2 hK D.out.2.2.2.2, blk_below_set HB1.out hge.1 0 _, hge, hne⟩
/-- at++ -/
theorem BInv.step {w0 W : World} {V : Vars} {client first : Int} {a b : ByteArray} {ops : List S38} {at_ : Int} (h : BInv w0 V client first a b ops at_ W) (x : Int) : BInv w0 V client first a b ops x (W.setCell ⟨V.ga, 0, none⟩ (.int .i64 x)) := by
  obtain ⟨htab, ⟨v, hbox, hrow⟩, hpos, hcl, hfi, hpu, hbel, hge, hne⟩ := h
  obtain ⟨C, fz, hC, _⟩ := htab.at_
  have hK : Kept W (W.setCell ⟨V.ga, 0, none⟩ (.int .i64 x)) (fun q => q = V.ga) := Kept.setCell (p := ⟨V.ga, 0, none⟩) (Kept.refl W (fun q => q = V.ga)) (.inl rfl) _
  have M := own_ne38 hrow hpos (by decide)
  exact ⟨htab.of_block hK.1 (hK.2 V.g htab.lt (blk_other hC hpos (by decide))), ⟨v, blk_kept hbox hK (blk_other hbox hpos (by decide)), Kd.R_mono (Kd.R_kept (Kd.R_tight rfl hrow) hK (fun q hq e => M (by rw [← e]; exact hq))) (fun _ _ => trivial)⟩, one_setCell hpos, blk_kept hcl hK (Ne.symm hne.1), blk_kept hfi hK (Ne.symm hne.2), blk_kept hpu hK (blk_other hpu hpos (by decide)), blk_below_set hbel hge.2 0 _, hge, hne⟩
set_option maxHeartbeats 4000000 in
theorem kept35 (w0 W : World) (V : Vars) (client first : Int) (a b : ByteArray) (ops : List S38) (at_ c : Int) (h : BInv w0 V client first a b ops at_ W) (hl : 0 ≤ at_ ∧ at_ ≤ 1000) :
    Calls Try.prog 35 #[.int .u8 c, .pointer (some ⟨V.ga, 0, none⟩)] W fun e w' => e = .returned (.tuple #[]) ∧ BInv w0 V client first a b ops (at_ + 1) w' := by
  have c1 := cell_of_one h.pos
  have f1 := free_of_one h.pos
  have HI := Aside0.mk h
  have q1 : IntKind.i64.wrap (at_ + 1) = at_ + 1 := wrap_small _ (by omega) (by omega)
  clear h
  go_enter Try.func35, Try.ntmps35
  go_wp2
  first | go_end0 | ((try simp only [Exit.inBlock, Exit.then]); refine bodyPost_ret (results_none rfl _ _ _) rfl ?_)
  exact ⟨rfl, HI.out.step _⟩
set_option maxHeartbeats 4000000 in
theorem out36 (w0 W : World) (V : Vars) (client first : Int) (a b : ByteArray) (ops : List S38) (at_ : Int) (h : BInv w0 V client first a b ops at_ W) (hl : ops.length ≤ 2000) (hf : 0 ≤ first ∧ first ≤ 1000) :
    Calls Try.prog 36 #[.pointer (some ⟨V.gp, 0, none⟩)] W fun e w' => e = .returned (.tuple #[]) ∧ BInv w0 V client first a b (ops ++ [⟨2, at_, 0, client, first + (ops.length : Int)⟩]) at_ w' := by
  have c1 := cell_of_one h.pu
  unfold putV at c1
  have HI := Aside0.mk h
  clear h
  go_enter Try.func36, Try.ntmps36
  go_wp2_with (go_at_call 34; refine (put34 w0 _ V client first a b ops at_ 2 0 HI.out hl hf).mono ?_; rintro e w3 ⟨rfl, h3⟩; have HJ := Aside0.mk h3; clear h3)
  first | go_end0 | ((try simp only [Exit.inBlock, Exit.then]); refine bodyPost_ret (results_none rfl _ _ _) rfl ?_)
  exact ⟨rfl, HJ.out⟩
set_option maxHeartbeats 4000000 in
theorem in37 (w0 W : World) (V : Vars) (client first : Int) (a b : ByteArray) (ops : List S38) (at_ c : Int) (h : BInv w0 V client first a b ops at_ W) (hl : ops.length ≤ 2000) (hf : 0 ≤ first ∧ first ≤ 1000) (hat : 0 ≤ at_ ∧ at_ ≤ 1000) :
    Calls Try.prog 37 #[.int .u8 c, .pointer (some ⟨V.gp, 0, none⟩), .pointer (some ⟨V.ga, 0, none⟩)] W fun e w' => e = .returned (.tuple #[]) ∧ BInv w0 V client first a b (ops ++ [⟨1, at_, c, client, first + (ops.length : Int)⟩]) (at_ + 1) w' := by
  have c1 := cell_of_one h.pu
  unfold putV at c1
  have HI := Aside0.mk h
  have q1 : IntKind.i64.wrap (at_ + 1) = at_ + 1 := wrap_small _ (by omega) (by omega)
  clear h
  go_enter Try.func37, Try.ntmps37
  go_wp2_with (go_at_call 34; refine (put34 w0 _ V client first a b ops at_ 1 c HI.out hl hf).mono ?_; rintro e w3 ⟨rfl, h3⟩; have c3 := cell_of_one h3.pos; have f3 := free_of_one h3.pos; have HJ := Aside0.mk h3; clear h3)
  first | go_end0 | ((try simp only [Exit.inBlock, Exit.then]); refine bodyPost_ret (results_none rfl _ _ _) rfl ?_)
  exact ⟨rfl, HJ.out.step _⟩
end Go.Proofs.Ytjnciljimacblaa.Q
