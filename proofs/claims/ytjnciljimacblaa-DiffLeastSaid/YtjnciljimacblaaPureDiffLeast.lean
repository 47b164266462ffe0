/- DiffLeast, as a plain law: no other way is shorter. -/
import Derived.Test.YtjnciljimacblaaPU
import Derived.Test.YtjnciljimacblaaOpenU
import Derived.Test.YtjnciljimacblaaQx14
namespace Go.Proofs.Ytjnciljimacblaa.Pure
set_option linter.unusedVariables false
set_option linter.unusedSimpArgs false
open Go.RowKit Go.Proofs.Ytjnciljimacblaa.Q Go.Proofs.Ytjnciljimacblaa.P Go.Proofs.Ytjnciljimacblaa.OpenS Go.Proofs.YtjnciljimacblaaW.PrintWords
/-- How far the text ys is from xs, and how many steps led there. -/
def Far (xs ys : List UInt8) (i : Nat) : Prop := ∃ q : Nat, (i : Int) = (xs.length : Int) + (ys.length : Int) - 2 * (JotDiff.lcs xs ys : Nat) + 2 * (q : Int)
theorem far_ins {xs ys zs : List UInt8} {i : Nat} (h : Far xs ys i) (hs : ys.Sublist zs) (hl : zs.length = ys.length + 1) : Far xs zs (i + 1) := by
  obtain ⟨q, hq⟩ := h
  have h1 := JotDiff.lcs_triangle xs zs ys
  have h2 : JotDiff.lcs ys zs = ys.length := by rw [JotDiff.lcs_comm]; exact JotDiff.lcs_part hs
  rw [h2] at h1
  have h3 := JotDiff.lcs_triangle xs ys zs
  have h4 : JotDiff.lcs zs ys = ys.length := JotDiff.lcs_part hs
  rw [h4] at h3
  exact ⟨q + (JotDiff.lcs xs zs - JotDiff.lcs xs ys), by omega⟩
theorem far_del {xs ys zs : List UInt8} {i : Nat} (h : Far xs ys i) (hs : zs.Sublist ys) (hl : ys.length = zs.length + 1) : Far xs zs (i + 1) := by
  obtain ⟨q, hq⟩ := h
  have h1 := JotDiff.lcs_triangle xs zs ys
  have h2 : JotDiff.lcs ys zs = zs.length := JotDiff.lcs_part hs
  rw [h2] at h1
  have h3 := JotDiff.lcs_triangle xs ys zs
  have h4 : JotDiff.lcs zs ys = zs.length := by rw [JotDiff.lcs_comm]; exact JotDiff.lcs_part hs
  rw [h4] at h3
  exact ⟨q + 1 + JotDiff.lcs xs zs - JotDiff.lcs xs ys, by omega⟩
theorem into_g (a m : Int) (hm : 0 < m) (hm2 : m ≤ 4611686018427387904) : ∃ r, jotterlaw17_into.f a m = some r ∧ 0 ≤ r ∧ r < m := by
  have t1 := Int.tmod_lt_of_pos a hm
  have t2 : -m < Int.tmod a m := Int.lt_tmod_of_pos a hm
  unfold jotterlaw17_into.f
  rw [if_neg (by omega)]
  by_cases h : Int.tmod a m < 0
  · rw [if_pos h, wrap_in (by omega) (by omega)]
    exact ⟨_, rfl, by omega, by omega⟩
  · rw [if_neg h]
    exact ⟨_, rfl, by omega, by omega⟩
theorem chS (c : Int) (h0 : 0 ≤ c) (h1 : c ≤ 255) : 32 ≤ (32 + Int.tmod c 95) % 256 ∧ (32 + Int.tmod c 95) % 256 ≤ 126 := by
  rw [Int.tmod_eq_emod_of_nonneg h0]
  omega
theorem nums_length (l : List UInt8) : (numsOf l).length = l.length := by simp [numsOf]
theorem nums_take (l : List UInt8) (p : Nat) : (numsOf l).take p = numsOf (l.take p) := by simp [numsOf, List.map_take]
theorem nums_drop (l : List UInt8) (p : Nat) : (numsOf l).drop p = numsOf (l.drop p) := by simp [numsOf, List.map_drop]
theorem nums_append (l m : List UInt8) : numsOf l ++ numsOf m = numsOf (l ++ m) := by simp [numsOf]
theorem least_end (A : ByteArray) (sA : A.size ≤ 400) (pA : plainE A = 0) (l : List S56) (i : Nat) (hi : i ≤ 100) (d : List S83) (ys : List UInt8) (hd : d.map (·.f0) = numsOf ys) (hok : ys.all okByte = true) (hl : d.length ≤ A.size + i) (hf : Far (L A) ys i) :
    Ev (fun k => jotterlaw17_DiffLeast.j1 k A l d i i false) true := by
  have hlen : d.length = ys.length := by have := congrArg List.length hd; rw [List.length_map, nums_length] at this; exact this
  have hT : L (textS d) = ys := by unfold textS; rw [hd, L_nums]
  have sT : (textS d).size = ys.length := by rw [← L_length, hT]
  have pT : plainE (textS d) = 0 := by rw [plainE_zero, hT]; exact hok
  have zX : (⟨#[120]⟩ : ByteArray).size = 1 := rfl
  have pX : plainE (⟨#[120]⟩ : ByteArray) = 0 := by decide
  have lX : L (⟨#[120]⟩ : ByteArray) = [120] := rfl
  have sAX := size_append A (⟨#[120]⟩ : ByteArray)
  have lA := L_length A
  have hx : distS A (A ++ (⟨#[120]⟩ : ByteArray)) = 1 := by
    have h1 : JotDiff.lcs (L A) (L A ++ [120]) = (L A).length := by rw [JotDiff.lcs_comm]; exact JotDiff.lcs_part (List.sublist_append_left _ _)
    rw [distS_eq, L_append, lX, h1]
    simp only [List.length_append, List.length_singleton]
    omega
  obtain ⟨q, hq⟩ := hf
  have b1 := JotDiff.lcs_le_left (L A) ys
  have b2 := JotDiff.lcs_le_right (L A) ys
  have hdist : distS A (textS d) = (i : Int) - 2 * (q : Int) := by rw [distS_eq, hT]; omega
  have hd0 : 0 ≤ distS A (textS d) := by rw [distS_eq, hT]; omega
  refine Ev.step (fun k => by rw [jotterlaw17_DiffLeast.j1]) (Ev.neg (by simp) (Ev.bind (docText d (by omega)) ?_))
  rw [dist_f (a := A) (b := textS d) (by omega) (by omega) pA pT, dist_f (a := A) (b := A ++ (⟨#[120]⟩ : ByteArray)) (by omega) (by omega) pA (plainE_append pA pX)]
  simp only [Option.bind_some, if_true]
  rw [hx, hdist]
  rw [hdist] at hd0
  refine Ev.pos (by omega) (Ev.pos rfl (Ev.pos (by omega) (Ev.pos (by omega) (Ev.const ?_))))
  rw [wrap_in (by omega) (by omega)]
  have e : (i : Int) - ((i : Int) - 2 * (q : Int)) = 2 * (q : Int) := by omega
  rw [e, show Int.tmod (2 * (q : Int)) 2 = 0 from by rw [Int.tmod_eq_emod_of_nonneg (by omega)]; omega]
  rfl
theorem least_l0 (A : ByteArray) (sA : A.size ≤ 400) (pA : plainE A = 0) (l : List S56) (hok0 : ∀ x ∈ l, StepOk x) (hl5 : l.length ≤ 5864062014634) (m : Nat) : ∀ (i : Nat) (d : List S83) (ys : List UInt8), i + m = min l.length 100 → d.map (·.f0) = numsOf ys → ys.all okByte = true → d.length ≤ A.size + i → Far (L A) ys i →
    Ev (fun k => jotterlaw17_DiffLeast.l0 k A l d i i) true := by
  induction m with
  | zero =>
    intro i d ys hi hd hok hl hf
    have he := least_end A sA pA l i (by omega) d ys hd hok hl hf
    refine Ev.step (fun k => by rw [jotterlaw17_DiffLeast.l0]) ?_
    by_cases h : i < l.length
    · refine Ev.pos (by omega) ?_
      rw [decide_eq_false (by omega)]
      exact he
    · exact Ev.neg (by omega) he
  | succ m ih =>
    intro i d ys hi hd hok hl hf
    have hlen : d.length = ys.length := by have := congrArg List.length hd; rw [List.length_map, nums_length] at this; exact this
    have hil : i < l.length := by omega
    obtain ⟨x, hx⟩ : ∃ x, x = rd_T56 l (i : Int) := ⟨_, rfl⟩
    have hxe : x = l[i] := by rw [hx]; unfold rd_T56; rw [Int.toNat_natCast, getD_at _ _ _ hil]
    have hxo : StepOk x := by rw [hxe]; exact hok0 _ (List.getElem_mem _)
    have hch := chS x.f2 hxo.f2.1 hxo.f2.2
    obtain ⟨c, hc⟩ : ∃ c, c = (32 + Int.tmod x.f2 95) % 256 := ⟨_, rfl⟩
    rw [← hc] at hch
    have hseq : Int.tmod (i : Int) 64 = ((i % 64 : Nat) : Int) := rfl
    obtain ⟨sq, hsq⟩ : ∃ s : Int, s = 1 + ((i % 64 : Nat) : Int) := ⟨_, rfl⟩
    have hsr : 1 ≤ sq ∧ sq ≤ 64 := by omega
    obtain ⟨p, hp, p0, p1⟩ := into_g x.f1 ((d.length : Int) + 1) (by omega) (by omega)
    -- an insertion
    have insE : Ev (fun k => jotterlaw17_DiffLeast.j2 k A l d i i false 1 p c 64 sq) true := by
      have hfit : fitsS d.length ⟨1, p, c, 64, sq⟩ = 0 := fits_ok (valid_ok (by simp) (by simp) (by simp) (by simp) hsr.1 hsr.2 (fun _ => hch) (by simp) (by simp) p0 (by show p < 4096; omega)) (by omega) (by omega) (fun _ => ⟨by omega, by show p ≤ _; omega⟩) (by simp)
      have ha := docApply d ⟨1, p, c, 64, sq⟩ (by show 0 ≤ c ∧ c ≤ 255; omega)
      rw [apply_ok hfit] at ha
      have hpl : p.toNat ≤ d.length := by omega
      have e : (putS d ⟨1, p, c, 64, sq⟩).map (·.f0) = numsOf (ys.take p.toNat ++ ([UInt8.ofNat c.toNat] ++ ys.drop p.toNat)) := by
        rw [put_ins, List.map_append, List.map_append, List.map_take, List.map_drop, hd, nums_take, nums_drop, ← nums_append, ← nums_append]
        congr 2
        show [c] = [((UInt8.ofNat c.toNat).toNat : Int)]
        rw [UInt8.toNat_ofNat']
        congr 1
        omega
      refine Ev.step (fun k => by rw [jotterlaw17_DiffLeast.j2]) (Ev.neg (by simp) (Ev.bind ha (Ev.pos rfl ?_)))
      rw [wrap_in (by omega) (by omega)]
      refine ih (i + 1) _ _ (by omega) e ?_ ?_ (far_ins hf ?_ ?_)
      · have h1 := hok
        rw [← List.take_append_drop p.toNat ys, List.all_append, Bool.and_eq_true] at h1
        rw [List.all_append, List.all_append, h1.1, h1.2]
        have : okByte (UInt8.ofNat c.toNat) = true := by
          unfold okByte
          rw [UInt8.toNat_ofNat']
          simp
          omega
        simp [this]
      · rw [put_length hfit]
        show (if (1 : Int) = 1 then d.length + 1 else _) ≤ _
        rw [if_pos rfl]
        omega
      · conv => lhs; rw [← List.take_append_drop p.toNat ys]
        exact (List.Sublist.refl _).append (List.sublist_append_right _ _)
      · simp only [List.length_append, List.length_take, List.length_drop, List.length_singleton]
        omega
    refine Ev.step (fun k => by rw [jotterlaw17_DiffLeast.l0]) (Ev.pos (by omega) ?_)
    rw [decide_eq_true (show (i : Int) < 100 by omega)]
    refine Ev.step (fun k => by rw [jotterlaw17_DiffLeast.j1]) (Ev.pos rfl (Ev.pos (by omega) (Ev.pos (by omega) ?_)))
    rw [← hx, wrap_in (n := (d.length : Int) + 1) (by omega) (by omega), hp, hseq, wrap_in (n := 1 + ((i % 64 : Nat) : Int)) (by omega) (by omega), ← hsq, ← hc]
    simp only [Option.bind_some]
    by_cases hout : x.f0 = true
    · refine Ev.pos hout ?_
      by_cases hd0 : 0 < d.length
      · rw [decide_eq_true (show (d.length : Int) > 0 by omega)]
        obtain ⟨p, hp, p0, p1⟩ := into_g x.f1 (d.length : Int) (by omega) (by omega)
        have hfit : fitsS d.length ⟨2, p, 0, 64, sq⟩ = 0 := fits_ok (valid_ok (by simp) (by simp) (by simp) (by simp) hsr.1 hsr.2 (by simp) (by simp) (by simp) p0 (by show p < 4096; omega)) (by omega) (by omega) (by simp) (fun _ => p1)
        have ha := docApply d ⟨2, p, 0, 64, sq⟩ (by show (0 : Int) ≤ 0 ∧ (0 : Int) ≤ 255; omega)
        rw [apply_ok hfit] at ha
        have e : (putS d ⟨2, p, 0, 64, sq⟩).map (·.f0) = numsOf (ys.take p.toNat ++ ys.drop (p.toNat + 1)) := by
          rw [put_del, List.map_append, List.map_take, List.map_drop, hd, nums_take, nums_drop, nums_append]
        have hsub : (ys.take p.toNat ++ ys.drop (p.toNat + 1)).Sublist ys := by
          conv => rhs; rw [← List.take_append_drop p.toNat ys]
          exact (List.Sublist.refl _).append (by rw [← List.drop_drop]; exact List.drop_sublist _ _)
        refine Ev.step (fun k => by rw [jotterlaw17_DiffLeast.j2]) (Ev.pos rfl (Ev.pos (by omega) (Ev.pos (by omega) ?_)))
        rw [← hx, hp]
        simp only [Option.bind_some]
        refine Ev.bind ha (Ev.pos rfl ?_)
        rw [wrap_in (by omega) (by omega)]
        refine ih (i + 1) _ _ (by omega) e ?_ ?_ (far_del hf hsub ?_)
        · rw [List.all_eq_true] at hok ⊢
          exact fun y hy => hok y (hsub.subset hy)
        · rw [put_length hfit]
          show (if (2 : Int) = 1 then _ else if (2 : Int) = 2 then d.length - 1 else _) ≤ _
          rw [if_neg (by omega), if_pos rfl]
          omega
        · simp only [List.length_append, List.length_take, List.length_drop]
          omega
      · rw [decide_eq_false (show ¬ (d.length : Int) > 0 by omega)]
        exact insE
    · exact Ev.neg hout insE
theorem DiffLeast (a : ByteArray) (l : List S56) (ha : a.size ≤ 140737488351232) (hl : l.length ≤ 5864062014634) (hok : ∀ x ∈ l, StepOk x) : ∃ k, jotterlaw17_DiffLeast.f k a l = some true := by
  have s1 := plainT_size a 400
  have p1 := plainT_ok a 400
  have e1 : jotterlaw17_plain.f a 400 = some (plainT a 400) := plain_f a 400 (by omega)
  refine Ev.rounds (g := fun k => jotterlaw17_DiffLeast.f k a l) ?_
  unfold jotterlaw17_DiffLeast.f
  rw [e1]
  simp only [Option.bind_some]
  generalize plainT a 400 = A at *
  refine Ev.bind (text_f A (by omega)) ?_
  refine least_l0 A s1 p1 l hok hl (min l.length 100) 0 (textL (L A) 0) (L A) (by omega) (textL_map _ _) (plainE_zero.1 p1) (by rw [textL_length, L_length]; omega) ⟨0, ?_⟩
  rw [JotDiff.lcs_self]
  omega
end Go.Proofs.Ytjnciljimacblaa.Pure
