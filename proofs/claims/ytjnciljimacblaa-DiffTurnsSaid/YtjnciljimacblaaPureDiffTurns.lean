/- DiffTurns, as a plain law: the operations turn the one text into the other. -/
import Derived.Test.YtjnciljimacblaaPU
import Derived.Test.YtjnciljimacblaaHC
import Derived.Test.YtjnciljimacblaaOpenU
import Derived.Test.YtjnciljimacblaaQx38
namespace Go.Proofs.Ytjnciljimacblaa.Pure
set_option linter.unusedVariables false
set_option linter.unusedSimpArgs false
open Go.RowKit Go.Proofs.Ytjnciljimacblaa.Q Go.Proofs.Ytjnciljimacblaa.P Go.Proofs.Ytjnciljimacblaa.OpenS Go.Proofs.YtjnciljimacblaaW.PrintWords
theorem textS_map (d : List S83) (l : List UInt8) (h : d.map (·.f0) = numsOf l) : L (textS d) = l := by
  unfold textS
  rw [h, L_nums]
theorem turns_l0 (f : Int) (hf : 1 ≤ f ∧ f ≤ 64) (B S : ByteArray) (ops : List S38) (hops : ops.length ≤ 64) (hform : ∀ (k : Nat) (o : S38), ops[k]? = some o → o.f0 ≠ 0 ∧ o.f3 = 64 ∧ o.f4 = f + (k : Int) ∧ 0 ≤ o.f2 ∧ o.f2 ≤ 255)
    (F : List S83) (hF : F.length ≤ 2000) (h1 : L (textS F) = L B) (h2 : L (textS (F.filter (fun e => e.f1 != 64))) = L S) (h3 : (F.filter (fun e => e.f1 != 64)).Pairwise Rise) (n : Nat) :
    ∀ (i : Nat) (D : List S83), i + n = ops.length → applies D (ops.drop i) = some F → Ev (fun k => jotterlaw17_DiffTurns.l0 k B f S ops D i) true := by
  induction n with
  | zero =>
    intro i D hi hD
    rw [List.drop_of_length_le (by omega)] at hD
    have hD : D = F := Option.some.inj hD
    subst hD
    have hold := old_f D (by omega)
    have hlo : (D.filter (fun e => e.f1 != 64)).length ≤ D.length := List.length_filter_le _ _
    refine Ev.step (fun k => by rw [jotterlaw17_DiffTurns.l0]) (Ev.neg (by omega) (Ev.bind hold (Ev.bind (docText D (by omega)) (Ev.pos ?_ (Ev.bind (docText (D.filter (fun e => e.f1 != 64)) (by omega)) (Ev.pos ?_ (Ev.bind (rising_f (D.filter (fun e => e.f1 != 64)) (by omega) h3) (Ev.now _))))))))
    · rw [toList_L, toList_L, h1]
    · rw [toList_L, toList_L, h2]
  | succ n ih =>
    intro i D hi hD
    have hio : i < ops.length := by omega
    have ho : ops[i]? = some ops[i] := List.getElem?_eq_getElem hio
    obtain ⟨g1, g2, g3, g4⟩ := hform i _ ho
    rw [List.drop_eq_getElem_cons hio, applies] at hD
    by_cases hfit : fitsS D.length ops[i] = 0
    case neg => rw [if_neg hfit] at hD; cases hD
    rw [if_pos hfit] at hD
    have hr : rd_T38 ops (i : Int) = ops[i] := by rw [rd38, getD_at _ _ _ hio]
    have ha := docApply D ops[i] g4
    rw [apply_ok hfit] at ha
    refine Ev.step (fun k => by rw [jotterlaw17_DiffTurns.l0]) (Ev.pos (by omega) (Ev.pos (by omega) ?_))
    rw [hr]
    refine Ev.bind ha (Ev.pos rfl (Ev.neg g1 (Ev.pos g2 (Ev.pos ?_ ?_))))
    · rw [g3, wrap_in (by omega) (by omega)]
    · rw [wrap_in (by omega) (by omega)]
      exact ih (i + 1) _ (by omega) hD
theorem turns_j0 (A B : ByteArray) (sA : A.size ≤ 512) (sB : B.size ≤ 512) (pA : plainE A = 0) (pB : plainE B = 0) (f : Int) (hf : 1 ≤ f ∧ f ≤ 64) : Ev (fun k => jotterlaw17_DiffTurns.j0 k A B f) true := by
  have hd := dist_f sA sB pA pB
  have hc : diff_Common.f A B = some (keptT A B, 0) := by unfold diff_Common.f; rw [if_pos (check_ok sA sB pA pB)]
  have hLK : L (keptT A B) = JotDiff.keptL (L A) (L B) := L_nums _
  obtain ⟨k1, k2, k3⟩ := JotDiff.kept_spec _ (L A) (L B) (Nat.le_refl _)
  have lA := L_length A
  have lB := L_length B
  have lS := L_length (keptT A B)
  rw [hLK, k3] at lS
  have b1 := JotDiff.lcs_le_left (L A) (L B)
  have b2 := JotDiff.lcs_le_right (L A) (L B)
  have hdist : distS A B = (A.size : Int) + (B.size : Int) - 2 * ((keptT A B).size : Int) := by rw [distS_eq]; omega
  have hb : diff_Between.f A B 64 f = some (if distS A B > 65 - f then ([], 172) else (opsL 64 f (L A) (L B) 0 0, 0)) := by
    unfold diff_Between.f betweenS
    rw [if_pos (by omega), if_neg (by rw [check_ok sA sB pA pB]; simp), if_neg (by omega)]
    rfl
  have hx : (distS A B != wrap64 (wrap64 ((A.size : Int) + (B.size : Int)) - wrap64 (2 * ((keptT A B).size : Int)))) = false := by
    rw [wrap_in (n := (A.size : Int) + (B.size : Int)) (by omega) (by omega), wrap_in (n := 2 * ((keptT A B).size : Int)) (by omega) (by omega), wrap_in (by omega) (by omega), bne_eq_false_iff_eq]
    exact hdist
  refine Ev.step (fun k => by rw [jotterlaw17_DiffTurns.j0]) ?_
  rw [hd, hc, hb]
  simp only [Option.bind_some, if_true]
  rw [hx]
  refine Ev.step (fun k => by rw [jotterlaw17_DiffTurns.j1]) (Ev.neg (by simp) ?_)
  rw [wrap_in (n := 65 - f) (by omega) (by omega)]
  by_cases hl : distS A B > 65 - f
  · rw [if_pos hl]
    exact Ev.pos hl (Ev.pos rfl (Ev.now _))
  · rw [if_neg hl]
    have hol := ops_length 64 f _ (L A) (L B) 0 0 (Nat.le_refl _)
    have hlen : ((opsL 64 f (L A) (L B) 0 0).length : Int) = distS A B := by omega
    refine Ev.neg hl (Ev.pos rfl ?_)
    have hne : (((opsL 64 f (L A) (L B) 0 0).length : Int) != distS A B) = false := bne_eq_false_iff_eq.2 hlen
    show Ev (fun k => jotterlaw17_DiffTurns.j2 k A B f (keptT A B) (opsL 64 f (L A) (L B) 0 0) (((opsL 64 f (L A) (L B) 0 0).length : Int) != distS A B)) true
    rw [hne]
    refine Ev.step (fun k => by rw [jotterlaw17_DiffTurns.j2]) (Ev.neg (by simp) (Ev.bind (text_f A sA) ?_))
    have hok : ∀ y ∈ L B, okByte y = true := by
      have := plainE_zero.1 pB
      rw [List.all_eq_true] at this
      exact this
    obtain ⟨F, r1, r2, r3, r4⟩ := turns f hf.1 _ (L A) (L B) (textL (L A) 0) [] 0 (Nat.le_refl _) (textL_map _ _) (textL_old _ _ (by omega)) hok (by simp; omega) (by simp only [List.length_nil]; omega)
    simp only [List.nil_append, List.length_nil] at r1
    have hFl : F.length = B.size := by
      have := congrArg List.length r2
      simpa [numsOf, lB] using this
    exact turns_l0 f hf B (keptT A B) _ (by omega) (fun k o ho => by have := ops_form 64 f _ (L A) (L B) 0 0 (Nat.le_refl _) k o ho; rw [Nat.zero_add] at this; exact this) F (by omega) (textS_map F _ r2) (by rw [textS_map _ _ r4, hLK]) ((textL_rise (L A) 0 (by omega)).sublist r3) _ 0 (textL (L A) 0) (Nat.zero_add _) r1
theorem DiffTurns (a b : ByteArray) (m : Int) (ha : a.size ≤ 140737488351232) (hb : b.size ≤ 140737488351232) (hm : In64 m) : ∃ k, jotterlaw17_DiffTurns.f k a b m = some true := by
  have s1 := plainT_size a 512
  have s2 := plainT_size b 512
  have p1 := plainT_ok a 512
  have p2 := plainT_ok b 512
  have e1 : jotterlaw17_plain.f a 512 = some (plainT a 512) := plain_f a 512 (by omega)
  have e2 : jotterlaw17_plain.f b 512 = some (plainT b 512) := plain_f b 512 (by omega)
  have t1 := Int.tmod_lt_of_pos m (show (0 : Int) < 64 by omega)
  have t2 : -64 < Int.tmod m 64 := Int.lt_tmod_of_pos m (by omega)
  refine Ev.rounds (g := fun k => jotterlaw17_DiffTurns.f k a b m) ?_
  unfold jotterlaw17_DiffTurns.f
  rw [e1, e2]
  simp only [Option.bind_some]
  rw [wrap_in (by omega) (by omega)]
  by_cases h : 1 + Int.tmod m 64 < 1
  · exact Ev.pos h (turns_j0 _ _ s1 s2 p1 p2 1 (by omega))
  · exact Ev.neg h (turns_j0 _ _ s1 s2 p1 p2 _ (by omega))
end Go.Proofs.Ytjnciljimacblaa.Pure
