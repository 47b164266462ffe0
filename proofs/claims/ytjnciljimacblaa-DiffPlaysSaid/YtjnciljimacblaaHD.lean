/- diff.Distance: what it answers, and the walk. No condition. -/
import Derived.Test.YtjnciljimacblaaHB
namespace Go.Proofs.Ytjnciljimacblaa.Q
open Go.RowKit Go.Proofs.YtjnciljimacblaaW.PrintWords Go.Proofs.YtjnciljimacblaaW.PrintLast Go.Proofs.YtjnciljimacblaaW.PrintMore
set_option linter.unusedVariables false
set_option linter.unusedSimpArgs false
set_option maxRecDepth 100000
def distS (a b : ByteArray) : Int := (a.size : Int) + (b.size : Int) - 2 * TT a b 0 0
def diff_Distance.f (a0 a1 : ByteArray) : Option (Int × Int) := some (if checkE a0 a1 = 0 then (distS a0 a1, 0) else (0, checkE a0 a1))
theorem check_short {a b : ByteArray} (h : checkE a b = 0) : a.size ≤ 512 ∧ b.size ≤ 512 := by
  unfold checkE at h
  by_cases h1 : (512 : Int) < (if a.size < b.size then (b.size : Int) else (a.size : Int))
  · rw [if_pos h1] at h; cases h
  · split at h1 <;> omega
set_option maxHeartbeats 4000000 in
theorem diff_Distance.calls (a0 a1 : ByteArray) (r1 r2 : Int) (w : World) (h : diff_Distance.f a0 a1 = some (r1, r2)) :
    Calls Try.prog 12 #[.string a0, .string a1] w fun e w' => e = .returned (.tuple #[.int .i64 r1, .int .i64 r2]) ∧ Below w.heap.size w w' := by
  unfold diff_Distance.f at h
  by_cases hE : checkE a0 a1 = 0
  · rw [if_pos hE] at h
    have h := Option.some.inj h
    obtain ⟨rfl, rfl⟩ : distS a0 a1 = r1 ∧ (0 : Int) = r2 := ⟨congrArg Prod.fst h, congrArg Prod.snd h⟩
    clear h
    obtain ⟨ha, hb⟩ := check_short hE
    have hr := TT_range a0 a1 0 0 ha
    have HM : Aside0 (∀ w, Calls Try.prog 29 #[.string a0, .string a1] w fun e w' => ∃ g, e = .returned (.tuple #[.pointer (some ⟨g, 0, none⟩), .int .i64 0]) ∧ w.heap.size ≤ g ∧ BlkI .i16 w' g 87 263169 (FO a0 a1 0) ∧ Below w.heap.size w w') := ⟨fun w => measured_calls a0 a1 w hE⟩
    obtain ⟨x, hx⟩ : ∃ x, x = TT a0 a1 0 0 := ⟨_, rfl⟩
    have e0 : FO a0 a1 0 0 = x := by unfold FO; rw [if_pos (by omega), hx]
    have HX : Aside0 (distS a0 a1 = (a0.size : Int) + (a1.size : Int) - 2 * x) := ⟨by unfold distS; rw [hx]⟩
    have HE := Aside0.mk e0
    rw [← hx] at hr
    clear hE e0 hx
    go_enter Try.func12, Try.ntmps12
    go_wp2_with ((with_reducible refine gate_dst (N := 11) rfl ?_); refine goesL_ (some 11) rfl rfl Try.func29 (by kernel_rfl) rfl #[.string a0, .string a1] rfl (by (try simp only [List.map_toArray, List.map_cons, List.map_nil]); first | done | rfl) ?_; refine (HM.out _).mono ?_; rintro e w1 ⟨g, rfl, hg, ht, hbl⟩; refine ⟨_, rfl, ?_⟩; have c0 := ht.cell (j := 0) (by omega); rw [HE.out] at c0; have HB := Aside0.mk hbl; clear hbl hg ht)
    go_ret2
    exact ⟨by rw [HX.out]; rfl, HB.out⟩
  · rw [if_neg hE] at h
    have h := Option.some.inj h
    obtain ⟨rfl, hr2⟩ : (0 : Int) = r1 ∧ checkE a0 a1 = r2 := ⟨congrArg Prod.fst h, congrArg Prod.snd h⟩
    have HM : Aside0 (∀ w, Calls Try.prog 29 #[.string a0, .string a1] w fun e w' => e = .returned (.tuple #[.pointer none, .int .i64 r2]) ∧ Below w.heap.size w w') := ⟨fun w => by have := measured_err a0 a1 w hE; rw [hr2] at this; exact this⟩
    have t2 : (r2 == 0) = false := by rw [← hr2]; simpa using hE
    have t3 : (r2 != 0) = true := by rw [← hr2]; simpa using hE
    clear h hE hr2
    go_enter Try.func12, Try.ntmps12
    go_wp2_with ((with_reducible refine gate_dst (N := 11) rfl ?_); refine goesL_ (some 11) rfl rfl Try.func29 (by kernel_rfl) rfl #[.string a0, .string a1] rfl (by (try simp only [List.map_toArray, List.map_cons, List.map_nil]); first | done | rfl) ?_; refine (HM.out _).mono ?_; rintro e w1 ⟨rfl, hbl⟩; refine ⟨_, rfl, ?_⟩; have HB := Aside0.mk hbl; clear hbl)
    go_ret2
    exact ⟨rfl, HB.out⟩
end Go.Proofs.Ytjnciljimacblaa.Q
