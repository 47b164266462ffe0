/- diff.Common: what it answers, and the walk. No condition. -/
import Derived.Test.YtjnciljimacblaaHL
import Derived.Test.YtjnciljimacblaaHD
namespace Go.Proofs.Ytjnciljimacblaa.Q
open Go.RowKit Go.Proofs.YtjnciljimacblaaW.PrintWords Go.Proofs.YtjnciljimacblaaW.PrintLast Go.Proofs.YtjnciljimacblaaW.PrintMore
set_option linter.unusedVariables false
set_option linter.unusedSimpArgs false
set_option maxRecDepth 100000
def keptT (a b : ByteArray) : ByteArray := strOfNums (keptI a b 0 0)
def diff_Common.f (a0 a1 : ByteArray) : Option (ByteArray × Int) := some (if checkE a0 a1 = 0 then (keptT a0 a1, 0) else (⟨#[]⟩, checkE a0 a1))
theorem cinv_start {w w1 : World} {g : Nat} {a b : ByteArray} (ht : BlkI .i16 w1 g 87 263169 (FO a b 0)) (hb : Below w.heap.size w w1) : CInv w g w1.heap.size a b [] (w1.alloc (.cells #[.slice none 0 0] 49 (0, 0))) := by
  have hB : Below w1.heap.size w1 (w1.alloc (.cells #[.slice none 0 0] 49 (0, 0))) := below_alloc (Below.refl _ _) _
  exact ⟨ht.below hB, ⟨_, heap_alloc_new _ _, Kd.R_nil _ _ _ _ _⟩, below_alloc hb _, hb.size⟩
theorem kept_read {w0 W : World} {g gk : Nat} {a b : ByteArray} {xs : List Int} (h : CInv w0 g gk a b xs W) : ∃ (A : Option Addr) (n c : Nat), W.cell? ⟨gk, 0, none⟩ = some (.slice A n c) ∧ (convert 49 9 (.slice A n c)).run Try.prog W = .ok (.string (strOfNums xs)) W := by
  obtain ⟨v, h1, h2⟩ := h.row
  obtain ⟨A, c, rfl⟩ := Kd.R_slice h2
  exact ⟨A, _, c, cell_of_one h1, Kd.C_string Try.underlying49 Try.underlying5 Try.underlying9 (Kd.R_reads' h2).2.2⟩
set_option maxHeartbeats 4000000 in
theorem diff_Common.calls (a0 a1 : ByteArray) (r1 : ByteArray) (r2 : Int) (w : World) (h : diff_Common.f a0 a1 = some (r1, r2)) :
    Calls Try.prog 13 #[.string a0, .string a1] w fun e w' => e = .returned (.tuple #[.string r1, .int .i64 r2]) ∧ Below w.heap.size w w' := by
  unfold diff_Common.f at h
  by_cases hE : checkE a0 a1 = 0
  · rw [if_pos hE] at h
    have h := Option.some.inj h
    obtain ⟨rfl, rfl⟩ : keptT a0 a1 = r1 ∧ (0 : Int) = r2 := ⟨congrArg Prod.fst h, congrArg Prod.snd h⟩
    clear h
    obtain ⟨ha, hb⟩ := check_short hE
    have HM : Aside0 (∀ w, Calls Try.prog 29 #[.string a0, .string a1] w fun e w' => ∃ g, e = .returned (.tuple #[.pointer (some ⟨g, 0, none⟩), .int .i64 0]) ∧ w.heap.size ≤ g ∧ BlkI .i16 w' g 87 263169 (FO a0 a1 0) ∧ Below w.heap.size w w') := ⟨fun w => measured_calls a0 a1 w hE⟩
    clear hE
    go_enter Try.func13, Try.ntmps13
    go_wp2_with (first
      | ((with_reducible refine gate_dst (N := 11) rfl ?_); fail)
      | ((with_reducible refine gate_dst (N := 12) rfl ?_); refine goesL_ (some 12) rfl rfl Try.func29 (by kernel_rfl) rfl #[.string a0, .string a1] rfl (by (try simp only [List.map_toArray, List.map_cons, List.map_nil]); first | done | rfl) ?_; refine (HM.out _).mono ?_; rintro e w1 ⟨g, rfl, hg, ht, hbl⟩; refine ⟨_, rfl, ?_⟩; have HT := Aside0.mk ht; have HB := Aside0.mk hbl; clear hbl hg ht)
      | (go_at_call 30; refine (walk30 w _ g w1.heap.size a0 a1 ha hb (cinv_start HT.out HB.out)).mono ?_; rintro e w3 ⟨rfl, h3⟩; obtain ⟨A, n, c, c1, c2⟩ := kept_read h3; have HI := Aside0.mk h3; clear h3))
    go_ret2
    exact ⟨rfl, HI.out.below⟩
  · rw [if_neg hE] at h
    have h := Option.some.inj h
    obtain ⟨rfl, hr2⟩ : (⟨#[]⟩ : ByteArray) = r1 ∧ checkE a0 a1 = r2 := ⟨congrArg Prod.fst h, congrArg Prod.snd h⟩
    have HM : Aside0 (∀ w, Calls Try.prog 29 #[.string a0, .string a1] w fun e w' => e = .returned (.tuple #[.pointer none, .int .i64 r2]) ∧ Below w.heap.size w w') := ⟨fun w => by have := measured_err a0 a1 w hE; rw [hr2] at this; exact this⟩
    have t2 : (r2 == 0) = false := by rw [← hr2]; simpa using hE
    have t3 : (r2 != 0) = true := by rw [← hr2]; simpa using hE
    clear h hE hr2
    go_enter Try.func13, Try.ntmps13
    go_wp2_with ((with_reducible refine gate_dst (N := 12) rfl ?_); refine goesL_ (some 12) rfl rfl Try.func29 (by kernel_rfl) rfl #[.string a0, .string a1] rfl (by (try simp only [List.map_toArray, List.map_cons, List.map_nil]); first | done | rfl) ?_; refine (HM.out _).mono ?_; rintro e w1 ⟨rfl, hbl⟩; refine ⟨_, rfl, ?_⟩; have HB := Aside0.mk hbl; clear hbl)
    go_ret2
    exact ⟨rfl, HB.out⟩
end Go.Proofs.Ytjnciljimacblaa.Q
