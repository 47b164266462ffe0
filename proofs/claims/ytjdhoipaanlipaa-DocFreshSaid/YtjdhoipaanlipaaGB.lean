/- grownElems: the call answers true; it writes into the rows that it is given, and new memory, alone. -/
import Derived.Test.YtjdhoipaanlipaaGD
import Derived.Test.YtjdhoipaanlipaaQx1
namespace Go.Proofs.Ytjdhoipaanlipaa.G
set_option linter.unusedVariables false
set_option linter.unusedSimpArgs false
open Go.RowKit Go.Proofs.Ytjdhoipaanlipaa.Q Go.Proofs.YtjdhoipaanlipaaW.PrintWords Go.Proofs.YtjdhoipaanlipaaW.PrintLast Go.Proofs.YtjdhoipaanlipaaW.PrintMore
attribute [local go_sem high] eqA24
set_option maxHeartbeats 8000000 in
set_option maxRecDepth 100000 in
theorem grown_calls (w0 w : World) (A : Option Addr) (c : Nat) (ss : List SV) (hB : Below w0.heap.size w0 w) (hlen : ss.length ≤ 1000) (hl : ∀ s ∈ ss, s.2.1 ≤ 5000) (hc : ss.length ≤ c) (O : Old w A ss) (h1 : St1 w0.heap.size A ss 0 0 w) :
    Calls Try.prog 44 #[.slice A ss.length c] w fun e w' => e = .returned (.bool true) ∧ Below w0.heap.size w0 w' ∧ Kept w w' (fun k => ∃ s ∈ ss, k = s.1) := by
  have hu24 := Try.underlying24
  have HB := Aside0.mk hB
  have HF := Aside0.mk O.fam
  have HO := Aside0.mk O
  have HL := Aside0.mk hl
  have HC := Aside0.mk hc
  have HS := Aside0.mk h1
  have HK := Aside0.mk (Kept.refl w (fun k => ∃ s ∈ ss, k = s.1))
  clear hB O hl hc h1
  go_enter Try.func44, Try.ntmps44
  go_wp2
  go_loopw [3] (fun v3 w' => ∃ i : Nat, i ≤ ss.length ∧ v3 = .int .i64 i ∧ Aside0 (St1 w0.heap.size A ss i 0 w') ∧ Aside0 (Below w0.heap.size w0 w') ∧ Aside0 (Kept w w' (fun k => ∃ s ∈ ss, k = s.1))) (fun v3 _ => ss.length - (intOf v3).toNat)
  case atStart => exact ⟨0, Nat.zero_le _, rfl, HS, HB, HK⟩
  case round =>
    obtain ⟨i, hi, rfl, HS, HB, HK⟩ := hrel
    by_cases hlt : i < ss.length
    · obtain ⟨s, hs0⟩ : ∃ s, ss[i]? = some s := ⟨_, List.getElem?_eq_getElem hlt⟩
      have Hs := Aside0.mk hs0
      clear hs0
      go_wp2
      obtain ⟨wo, rfl⟩ : ∃ wo : World, wo = wr := ⟨_, rfl⟩
      go_loopw [4] (fun v4 w' => ∃ k : Nat, k ≤ s.2.1 ∧ v4 = .int .i64 k ∧ Aside0 (St1 w0.heap.size A ss i k w') ∧ Aside0 (Below w0.heap.size w0 w') ∧ Aside0 (Kept w w' (fun k => ∃ s ∈ ss, k = s.1))) (fun v4 _ => s.2.1 - (intOf v4).toNat)
      case atStart => exact ⟨0, Nat.zero_le _, rfl, HS, HB, HK⟩
      case round =>
        clear HS HB HK
        obtain ⟨k, hk, rfl, HS, HB, HK⟩ := hrel
        obtain ⟨ad, rfl, hcell⟩ := outer_at HS.out.outer Hs.out
        have hsl := HL.out s (List.mem_of_getElem? Hs.out)
        unfold sv at hcell
        by_cases hkl : k < s.2.1
        · obtain ⟨xs, hr, hstep⟩ := HS.out.row Hs.out
          obtain ⟨x, hx⟩ : ∃ x, xs[k]? = some x := ⟨_, List.getElem?_eq_getElem (by have := hr.len; omega)⟩
          obtain ⟨⟨x0, x1, x2⟩, ⟨f0, f1, f2⟩, hput⟩ := hr.elem hx
          have HP := Aside0.mk (hput (mk1 i k))
          have HST := Aside0.mk hstep
          have HR := Aside0.mk hr
          clear hput hstep hr hx
          have hge := HR.out.ge
          have hmem := List.mem_of_getElem? Hs.out
          have N1 : Aside0 (St1 w0.heap.size (some ad) ss i (k + 1) (put3 wr s.1 k (mk1 i k))) := ⟨HST.out _ HP.out.1 HP.out.2 HF.out⟩
          have N2 : Aside0 (Below w0.heap.size w0 (put3 wr s.1 k (mk1 i k))) := ⟨pw_below_grown HB.out _ HB.out.size HP.out.2 (fun q hq => by injection hq with hq; rw [← hq]; exact hge)⟩
          have N3 : Aside0 (Kept w (put3 wr s.1 k (mk1 i k)) (fun k => ∃ s ∈ ss, k = s.1)) := ⟨Kept.of_grown HP.out.2 HK.out (fun q hq => by injection hq with hq; exact .inl ⟨s, hmem, hq.symm⟩)⟩
          clear HP HST HR HB HK HS hge hmem
          go_wp2
          go_roundw
          case rel => exact ⟨k + 1, by omega, by go_num, N1, N2, N3⟩
          case measure => simp [intOf]; omega
        · have N1 : Aside0 (St1 w0.heap.size (some ad) ss (i + 1) 0 wr) := ⟨HS.out.next Hs.out (by omega)⟩
          clear HS
          obtain rfl : k = s.2.1 := by omega
          go_wp2
          go_roundw
          case rel => exact ⟨i + 1, by omega, by go_num, N1, HB, HK⟩
          case measure => simp [intOf]; omega
    · obtain rfl : i = ss.length := by omega
      have HCore : Aside0 (Core w w0.heap.size A ss [] 0 wr) := ⟨HS.out.core⟩
      clear HS
      go_wp2
      go_loopw [5, 6] (fun v5 v6 w' => ∃ (i : Nat) (gs : List SV), i ≤ ss.length ∧ v6 = .int .i64 i ∧ Aside0 (gs.length = i) ∧ Aside0 (Core w w0.heap.size A ss gs i w') ∧ Aside0 (Grow w w0.heap.size v5 gs w') ∧ Aside0 (Below w0.heap.size w0 w') ∧ Aside0 (Kept w w' (fun k => ∃ s ∈ ss, k = s.1))) (fun _ v6 _ => ss.length - (intOf v6).toNat)
      case atStart => exact ⟨0, [], Nat.zero_le _, rfl, ⟨rfl⟩, HCore, ⟨Kd.R_nil _ _ _ _ _⟩, HB, HK⟩
      case round =>
        clear HCore HB HK
        obtain ⟨i, gs, hi, rfl, HG, HCore, HGr, HB, HK⟩ := hrel
        by_cases hlt : i < ss.length
        · obtain ⟨s, hs0⟩ : ∃ s, ss[i]? = some s := ⟨_, List.getElem?_eq_getElem hlt⟩
          have Hs := Aside0.mk hs0
          clear hs0
          obtain ⟨ad, rfl, hcell⟩ := outer_at HCore.out.outer Hs.out
          have hsl := HL.out s (List.mem_of_getElem? Hs.out)
          have HC0 := Aside0.mk (HCore.out.cur HO.out HG.out Hs.out)
          unfold sv at hcell
          go_wp2
          obtain ⟨wo, rfl⟩ : ∃ wo : World, wo = wr := ⟨_, rfl⟩
          go_loopw [7, 8] (fun v7 v8 w' => ∃ (k : Nat) (t : SV), k ≤ 64 ∧ v8 = .int .i64 k ∧ v7 = .slice (some ⟨t.1, 0, none⟩) t.2.1 t.2.2 ∧ Aside0 (Core w w0.heap.size (some ad) ss gs (i + 1) w' ∧ Cur w w0.heap.size ss gs s t i k w') ∧ Aside0 (Grow w w0.heap.size u5 gs w') ∧ Aside0 (Below w0.heap.size w0 w') ∧ Aside0 (Kept w w' (fun k => ∃ s ∈ ss, k = s.1))) (fun _ v8 _ => 64 - (intOf v8).toNat)
          case atStart => exact ⟨0, s, Nat.zero_le _, rfl, rfl, HC0, HGr, HB, HK⟩
          case round =>
            clear HC0 HGr HB HK hcell HCore
            obtain ⟨k, t, hk, rfl, rfl, HC0, HGr, HB, HK⟩ := hrel
            by_cases hk64 : k < 64
            · go_wp2_with (at_builtin; refine row_append w0.heap.size rfl (.tmp 51) (.tmp 56) rfl t (m1 i s.2.1 ++ m2 i k) (mk2 i k) rfl rfl HC0.out.2.row ?aS ?aL ?_; (case aS => exact HB.out.size); (case aL => have := HC0.out.2.len; omega); intro t' w1 hrow hg; have N1 := Aside0.mk (Cur.append HO.out HK.out.1 HG.out Hs.out HC0.out.1 HC0.out.2 hrow hg); have N2 := Aside0.mk (Grow.step HGr.out HC0.out.2.row hg); have N3 := Aside0.mk (below_step2 HB.out HC0.out.2.row.ge hg); have N4 := Aside0.mk (kept_step2 HK.out (HC0.out.2.where_.imp (fun e => ⟨s, List.mem_of_getElem? Hs.out, e⟩) id) hg); clear hrow hg HC0 HGr HB HK; unfold sv)
              go_roundw
              case rel => exact ⟨k + 1, t', by omega, by go_num, rfl, N1, N2, N3, N4⟩
              case measure => simp [intOf]; omega
            · obtain rfl : k = 64 := by omega
              go_wp2_with (at_builtin; refine Kd.R_append kS (w0 := w0) w0.heap.size rfl (.tmp 58) (.tmp 60) 58 22 (.slice none 0 0) 24 rfl Try.underlying58 info22 rfl (by decide) (by decide) u5 gs t [sv t] (fun q => w.heap.size ≤ q) (fun _ => False) rfl rfl rfl (fun _ hk => hk.elim) ?aF HGr.out HB.out HB.out.size ?aL ?_; (case aF => exact fun q hq => Nat.le_trans HK.out.1 hq); (case aL => have := HG.out; omega); intro v1 w1 hrow hb hg hat; have N1 := Aside0.mk (Core.listed HO.out (Cur.close HG.out Hs.out HC0.out.1 HC0.out.2) HGr.out hg); have N2 : Aside0 (Grow w w0.heap.size v1 (gs ++ [t]) w1) := ⟨hrow⟩; have N3 := Aside0.mk hb; have N4 := Aside0.mk (Kept.of_grown (S := (fun k => ∃ s ∈ ss, k = s.1)) hg HK.out (fun q hq => .inr (HGr.out.1 q hq))); clear hrow hb hg hat HC0 HGr HB HK)
              go_roundw
              case rel => exact ⟨i + 1, gs ++ [t], by omega, by go_num, ⟨by have := HG.out; simp; omega⟩, N1, N2, N3, N4⟩
              case measure => simp [intOf]; omega
        · obtain rfl : i = ss.length := by omega
          obtain ⟨Ag, cg, hvg⟩ := Kd.R_slice HGr.out
          subst hvg
          go_wp2
          go_loop [9] (fun v9 => ∃ i : Nat, i ≤ ss.length ∧ v9 = .int .i64 i) (fun v9 => ss.length - (intOf v9).toNat)
          case atStart => exact ⟨0, Nat.zero_le _, rfl⟩
          case round =>
            obtain ⟨i, hi3, rfl⟩ := hrel
            have hgc := (Kd.R_reads' HGr.out).2.2
            have hgn := (Kd.R_reads' HGr.out).2.1
            have hgl := HG.out
            by_cases hlt : i < ss.length
            · obtain ⟨s, hs0⟩ : ∃ s, ss[i]? = some s := ⟨_, List.getElem?_eq_getElem hlt⟩
              obtain ⟨t, ht0⟩ : ∃ t, gs[i]? = some t := ⟨_, List.getElem?_eq_getElem (by omega)⟩
              obtain ⟨ad, rfl, hcell⟩ := outer_at HCore.out.outer hs0
              obtain ⟨ag, rfl, hcellg⟩ := outer_at hgc ht0
              obtain ⟨hrow, hold⟩ := HCore.out.done i t s ht0 hs0
              have hsl := HL.out s (List.mem_of_getElem? hs0)
              have htl : t.2.1 = s.2.1 + 64 := by have := hrow.len; rw [List.length_append, m1_length, m2_length] at this; exact this.symm
              have hq : ((t.2.1 : Int) != (s.2.1 : Int) + 64) = false := by rw [bne_eq_false_iff_eq]; omega
              have htb : t.2.1 ≤ 6000 := by omega
              have hig : i < gs.length := by omega
              have HT := Aside0.mk htl
              have HR := Aside0.mk hrow
              have HD := Aside0.mk hold
              clear hgc hgl hrow hold htl hs0 ht0
              unfold sv at hcell hcellg
              go_wp2
              go_loop [11] (fun v11 => ∃ k : Nat, k ≤ s.2.1 + 64 ∧ v11 = .int .i64 k) (fun v11 => s.2.1 + 64 - (intOf v11).toNat)
              case atStart => exact ⟨0, Nat.zero_le _, rfl⟩
              case round =>
                obtain ⟨k, hk, rfl⟩ := hrel
                by_cases hk64 : k < s.2.1 + 64
                · by_cases hkn : k < s.2.1
                  · have hxe : (m1 i s.2.1 ++ m2 i 64)[k]? = some (mk1 i k) := by
                      rw [List.getElem?_append_left (by rw [m1_length]; exact hkn)]; simp [m1, hkn]
                    have hxo : (m1 i s.2.1)[k]? = some (mk1 i k) := by simp [m1, hkn]
                    have hlo : (m1 i s.2.1).length = s.2.1 := m1_length _ _
                    obtain ⟨⟨g0, g1, g2⟩, _, _⟩ := HR.out.elem hxe
                    obtain ⟨ao, eo, o0, o1, o2⟩ := C24_at HD.out hxo
                    injection eo with eo
                    subst eo
                    have hktl : k < t.2.1 := by have := HT.out; omega
                    have z0 : ((0 : Int) == 0) = true := rfl
                    have z1 : ((-1 - (i : Int)) == (-1 - (i : Int))) = true := beq_self_eq_true _
                    have z2 : (((k : Int)) == (k : Int)) = true := beq_self_eq_true _
                    change wr.cell? ⟨t.1, k * 3, none⟩ = some (.int .u8 0) at g0
                    change wr.cell? ⟨t.1, k * 3 + 1, none⟩ = some (.int .i64 (-1 - (i : Int))) at g1
                    change wr.cell? ⟨t.1, k * 3 + 2, none⟩ = some (.int .i64 (k : Int)) at g2
                    rw [Go.WideShapes.add_plain, Nat.zero_add] at o0 o1 o2
                    change wr.cell? ⟨s.1, k * 3, none⟩ = some (.int .u8 0) at o0
                    change wr.cell? ⟨s.1, k * 3 + 1, none⟩ = some (.int .i64 (-1 - (i : Int))) at o1
                    change wr.cell? ⟨s.1, k * 3 + 2, none⟩ = some (.int .i64 (k : Int)) at o2
                    have hnn : ((k : Int) ≥ (s.2.1 : Int)) = False := by simp; omega
                    clear hxe hxo hlo
                    go_wp2
                    exact ⟨⟨k + 1, by omega, by go_num⟩, by simp [intOf]; omega⟩
                  · obtain ⟨m, rfl⟩ : ∃ m, k = s.2.1 + m := ⟨k - s.2.1, by omega⟩
                    have hxe : (m1 i s.2.1 ++ m2 i 64)[s.2.1 + m]? = some (mk2 i m) := by
                      rw [List.getElem?_append_right (by rw [m1_length]; omega), m1_length, show s.2.1 + m - s.2.1 = m by omega]
                      have hm64 : m < 64 := by omega
                      simp [m2, hm64]
                    obtain ⟨⟨g0, g1, g2⟩, _, _⟩ := HR.out.elem hxe
                    have hktl : s.2.1 + m < t.2.1 := by have := HT.out; omega
                    have em : ((mk2 i m).f2 : Int) = ((s.2.1 + m : Nat) : Int) - (s.2.1 : Int) := by show (m : Int) = _; omega
                    have z0 : ((0 : Int) == 0) = true := rfl
                    have z1 : ((-1000 - (i : Int)) == (-1000 - (i : Int))) = true := beq_self_eq_true _
                    rw [em] at g2
                    generalize hkk : s.2.1 + m = k at *
                    have z2 : (((k : Int) - (s.2.1 : Int)) == ((k : Int) - (s.2.1 : Int))) = true := beq_self_eq_true _
                    change wr.cell? ⟨t.1, k * 3, none⟩ = some (.int .u8 0) at g0
                    change wr.cell? ⟨t.1, k * 3 + 1, none⟩ = some (.int .i64 (-1000 - (i : Int))) at g1
                    have hnn : ((k : Int) ≥ (s.2.1 : Int)) = True := by simp; omega
                    clear hxe em
                    go_wp2
                    exact ⟨⟨k + 1, by omega, by go_num⟩, by simp [intOf]; omega⟩
                · obtain rfl : k = s.2.1 + 64 := by omega
                  go_wp2
                  exact ⟨⟨i + 1, by omega, by go_num⟩, by simp [intOf]; omega⟩
            · obtain rfl : i = ss.length := by omega
              go_wp2
              go_ret
              exact ⟨rfl, HB.out, by simpa using HK.out⟩
end Go.Proofs.Ytjdhoipaanlipaa.G
