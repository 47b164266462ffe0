/- diff: the two functions plain: of a text handed in to diff (is every byte a character?), and of the statements (bytes brought to characters). The walks. Condition: the text is no longer than a machine holds. -/
import Derived.Test.YtjnciljimacblaaQx0
import Derived.Laws.RangeAny
namespace Go.Proofs.Ytjnciljimacblaa.Q
open Go.RowKit Go.Proofs.YtjnciljimacblaaW.PrintWords Go.Proofs.YtjnciljimacblaaW.PrintLast Go.Proofs.YtjnciljimacblaaW.PrintMore
set_option linter.unusedVariables false
set_option linter.unusedSimpArgs false
def okByte (b : UInt8) : Bool := decide (32 ≤ b.toNat) && decide (b.toNat ≤ 126)
def plainE (s : ByteArray) : Int := if s.data.toList.all okByte = true then 0 else 171
theorem plainE_bad {s : ByteArray} {i : Nat} (h : i < s.size) (hb : okByte (s[i]'h) = false) : plainE s = 171 := by
  unfold plainE
  rw [if_neg]
  intro e
  rw [List.all_eq_true] at e
  have := e (s[i]'h) (by
    have h1 : s.data.toList[i]? = some (s[i]'h) := by
      rw [List.getElem?_eq_getElem (by simpa using h)]
      rfl
    exact List.mem_of_getElem? h1)
  rw [hb] at this
  cases this
theorem plainE_end {s : ByteArray} (h : (s.data.toList.take s.size).all okByte = true) : plainE s = 0 := by
  have e : s.data.toList.take s.size = s.data.toList := List.take_of_length_le (Nat.le_of_eq rfl)
  rw [e] at h
  unfold plainE
  rw [if_pos h]
theorem plain_push {s : ByteArray} {i : Nat} (h : i < s.size) (hb : okByte (s[i]'h) = true) (hp : (s.data.toList.take i).all okByte = true) : (s.data.toList.take (i + 1)).all okByte = true := by
  have hl : i < s.data.toList.length := by simpa using h
  rw [List.take_add_one, List.all_append, hp, List.getElem?_eq_getElem hl]
  have e : s.data.toList[i] = s[i]'h := rfl
  simp [e, hb]
theorem iter_below (w : World) (s : ByteArray) (pos : Nat) : Below w.heap.size w (w.iter s pos) := below_alloc (Below.refl _ _) _
set_option maxHeartbeats 2000000 in
theorem plainE_calls (s : ByteArray) (w : World) : Calls Try.prog 43 #[.string s] w fun e w' => e = .returned (.int .i64 (plainE s)) ∧ Below w.heap.size w w' := by
  go_enter Try.func43, Try.ntmps43
  go_wp2
  go_loopw [4] (fun _ wr => ∃ pos : Nat, pos ≤ s.size ∧ wr = w.iter s pos ∧ Aside0 ((s.data.toList.take pos).all okByte = true)) (fun _ wr => s.size - wr.iterPos w.heap.size)
  case atStart => exact ⟨0, Nat.zero_le _, rfl, ⟨by simp⟩⟩
  case round =>
    obtain ⟨pos, hle, rfl, HP⟩ := hrel
    by_cases hp : pos < s.size
    · have hnx : ∀ ty, (Instr.next (.pointer (some ⟨w.heap.size, 0, none⟩)) true ty).run Try.prog (w.iter s pos) = _ := fun ty => run_next_any w s pos ty hp
      by_cases hb : okByte (s[pos]'hp) = true
      · have hb2 : 32 ≤ (s[pos]'hp).toNat ∧ (s[pos]'hp).toNat ≤ 126 := by simpa [okByte] using hb
        rw [decode_ascii s pos hp (by omega)] at hnx
        have HP2 := Aside0.mk (plain_push hp hb HP.out)
        generalize (s[pos]'hp).toNat = c at hb2 hnx
        dsimp only at hnx
        have t1 : decide ((c : Int) < 32) = false := decide_eq_false (by omega)
        have t2 : decide ((c : Int) > 126) = false := decide_eq_false (by omega)
        have t3 : decide ((126 : Int) < c) = false := decide_eq_false (by omega)
        clear HP hb
        go_wp2
        go_roundw
        case rel => exact ⟨pos + 1, by omega, rfl, HP2⟩
        case measure => simp; omega
      · have hb : okByte (s[pos]'hp) = false := by simpa using hb
        have HE := Aside0.mk (plainE_bad hp hb)
        have hc : ((Utf8.decode s pos).1 : Int) < 32 ∨ ((Utf8.decode s pos).1 : Int) > 126 := by
          by_cases hl : (s[pos]'hp).toNat < 128
          · rw [decode_ascii s pos hp hl]
            simp [okByte] at hb
            show ((s[pos]'hp).toNat : Int) < 32 ∨ ((s[pos]'hp).toNat : Int) > 126
            omega
          · have := (decode_high s pos hp (by omega)).1
            omega
        have hB : Below w.heap.size w (w.iter s (pos + (Utf8.decode s pos).2)) := iter_below _ _ _
        generalize (Utf8.decode s pos).1 = c at hc hnx
        generalize w.iter s (pos + (Utf8.decode s pos).2) = w2 at hB hnx
        clear HP hb
        rcases hc with hc | hc
        · have t1 : decide ((c : Int) < 32) = true := decide_eq_true hc
          go_wp2
          go_ret
          exact ⟨by rw [HE.out]; rfl, hB⟩
        · have t1 : decide ((c : Int) < 32) = false := decide_eq_false (by omega)
          have t2 : decide ((c : Int) > 126) = true := decide_eq_true hc
          have t3 : decide ((126 : Int) < c) = true := decide_eq_true hc
          go_wp2
          go_ret
          exact ⟨by rw [HE.out]; rfl, hB⟩
    · obtain rfl : pos = s.size := by omega
      have hnx : ∀ ty, (Instr.next (.pointer (some ⟨w.heap.size, 0, none⟩)) true ty).run Try.prog (w.iter s s.size) = _ := fun ty => run_next_end w s s.size ty hp
      have HE := Aside0.mk (plainE_end HP.out)
      have hB : Below w.heap.size w (w.iter s s.size) := iter_below _ _ _
      clear HP
      go_wp2
      go_ret
      exact ⟨by rw [HE.out]; rfl, hB⟩
/-- A block's first n cells hold whole numbers, and may be written. -/
structure BlkI (k : IntKind) (W : World) (g t : Nat) (n : Nat) (f : Nat → Int) : Prop where
  lt : g < W.heap.size
  at_ : ∃ (C : Array Value) (fz : Nat × Nat), W.heap[g]? = some (.cells C t fz) ∧ (fz = (0, 0) ∨ n ≤ fz.1) ∧ n ≤ C.size ∧ ∀ j, j < n → C[j]? = some (.int k (f j))
section
variable {k : IntKind} {W W1 : World} {g t n : Nat} {f : Nat → Int}
theorem BlkI.cell (h : BlkI k W g t n f) {j : Nat} (hj : j < n) : W.cell? ⟨g, j, none⟩ = some (.int k (f j)) := by
  obtain ⟨C, fz, h1, h2, h3, h4⟩ := h.at_
  rw [World.cell?, h1]
  exact h4 j hj
theorem BlkI.frozen (h : BlkI k W g t n f) {j : Nat} (hj : j < n) : W.frozen? ⟨g, j, none⟩ = false := by
  obtain ⟨C, ⟨lo, hi⟩, h1, h2, h3, h4⟩ := h.at_
  rw [World.frozen?, h1]
  rcases h2 with h2 | h2
  · injection h2 with h5 h6
    subst h5; subst h6
    simp
  · simp only at h2
    simp only [Bool.and_eq_false_iff, decide_eq_false_iff_not]
    exact .inl (by omega)
theorem BlkI.set (h : BlkI k W g t n f) {j : Nat} (hj : j < n) (v : Int) : BlkI k (W.setCell ⟨g, j, none⟩ (.int k v)) g t n (fun q => if q = j then v else f q) := by
  obtain ⟨C, fz, h1, h2, h3, h4⟩ := h.at_
  refine ⟨by simpa [World.setCell] using h.lt, C.setIfInBounds j (.int k v), fz, ?_, h2, by simpa using h3, fun q hq => ?_⟩
  · have hg := h.lt
    rw [Array.getElem?_eq_getElem hg] at h1
    have h1 := Option.some.inj h1
    simp only [World.setCell, Array.getElem?_modify, Array.getElem?_eq_getElem hg, if_true, Option.map_some, h1]
    simp
  · by_cases e : q = j
    · subst e
      rw [Array.getElem?_setIfInBounds_self_of_lt (by omega), if_pos rfl]
    · rw [Array.getElem?_setIfInBounds_ne (by omega), if_neg e]
      exact h4 q hq
theorem BlkI.of_block (h : BlkI k W g t n f) (hs : W.heap.size ≤ W1.heap.size) (hb : W1.heap[g]? = W.heap[g]?) : BlkI k W1 g t n f := by
  obtain ⟨C, fz, h1, h2⟩ := h.at_
  exact ⟨Nat.lt_of_lt_of_le h.lt hs, C, fz, hb.trans h1, h2⟩
theorem BlkI.below (h : BlkI k W g t n f) (hb : Below W.heap.size W W1) : BlkI k W1 g t n f := h.of_block hb.size (hb.block g h.lt)
theorem BlkI.congr {f' : Nat → Int} (h : BlkI k W g t n f) (hf : ∀ j, j < n → f j = f' j) : BlkI k W g t n f' := by
  obtain ⟨C, fz, h1, h2, h3, h4⟩ := h.at_
  exact ⟨h.lt, C, fz, h1, h2, h3, fun j hj => by rw [← hf j hj]; exact h4 j hj⟩
theorem blk_below_set {b : Nat} {w : World} (h : Below b w W) (hg : b ≤ g) (j : Nat) (v : Value) : Below b w (W.setCell ⟨g, j, none⟩ v) :=
  h.trans ⟨rfl, rfl, rfl, by simp [World.setCell], fun i hi => Below.heap_setCell W _ _ i (by show i ≠ g; omega)⟩
end
theorem bytesCells_ge (W : World) (s : ByteArray) : s.size ≤ (Lib.bytesCells W 5 s).size := by
  unfold Lib.bytesCells
  rw [Array.size_append, Array.size_map]
  exact Nat.le_add_right s.data.size _
theorem blk_bytes (W : World) (s : ByteArray) : BlkI .u8 (Lib.bytesWorld W 5 s) W.heap.size 5 s.size (fun j => (bytesOf s).getD j 0) := by
  refine ⟨by rw [Lib.bytesWorld_size]; omega, _, _, Lib.bytesWorld_at_new W 5 s, .inr ?_, ?_, fun j hj => ?_⟩
  · exact bytesCells_ge W s
  · exact bytesCells_ge W s
  · have h1 := Lib.bytesWorld_cell W 5 s j hj
    rw [World.cell?, Lib.bytesWorld_at_new W 5 s] at h1
    have h1 : (Lib.bytesCells W 5 s)[j]? = _ := h1
    rw [h1]
    have h' : j < s.data.toList.length := by rw [data_length]; exact hj
    simp [bytesOf, List.getD_eq_getElem?_getD, List.getElem?_eq_getElem h']
/-- A byte, brought to a character. -/
def fixB (b : Int) : Int := if b < 32 ∨ b > 126 then 32 + b % 95 else b
def plainL (s : ByteArray) (n : Nat) : List Int := ((bytesOf s).take n).map fixB
def jotterlaw17_plain.f (a0 : ByteArray) (a1 : Int) : Option ByteArray := if 0 ≤ a1 ∧ a0.size ≤ 140737488355328 then some (strOfNums (plainL a0 a1.toNat)) else none
theorem fix_at (s : ByteArray) {n j : Nat} (hn : n ≤ s.size) (hj : j < n) : (plainL s n).getD j 0 = fixB ((bytesOf s).getD j 0) := by
  have h1 : j < (bytesOf s).length := by rw [bytesOf_length]; omega
  unfold plainL
  simp only [List.getD_eq_getElem?_getD, List.getElem?_map, List.getElem?_take, if_pos hj, List.getElem?_eq_getElem h1, Option.map_some, Option.getD_some]
theorem plainL_length (s : ByteArray) {n : Nat} (hn : n ≤ s.size) : (plainL s n).length = n := by
  unfold plainL
  rw [List.length_map, List.length_take, bytesOf_length]
  omega
theorem byte_range (s : ByteArray) (j : Nat) : 0 ≤ (bytesOf s).getD j 0 ∧ (bytesOf s).getD j 0 ≤ 255 := by
  rw [List.getD_eq_getElem?_getD]
  by_cases h : j < (bytesOf s).length
  · rw [List.getElem?_eq_getElem h]
    simp only [bytesOf, Option.getD_some, List.getElem_map]
    have := (s.data.toList[j]'(by simpa [bytesOf] using h)).toNat_lt
    omega
  · rw [List.getElem?_eq_none (by omega)]
    simp
/-- The loop's state: the bytes ahead of i are characters. -/
def fixF (s : ByteArray) (i j : Nat) : Int := if j < i then fixB ((bytesOf s).getD j 0) else (bytesOf s).getD j 0
set_option maxRecDepth 100000 in
set_option maxHeartbeats 4000000 in
theorem jotterlaw17_plain.calls (a0 : ByteArray) (a1 : Int) (r : ByteArray) (w : World) (h : jotterlaw17_plain.f a0 a1 = some r) :
    Calls Try.prog 11 #[.string a0, .int .i64 a1] w fun e w' => e = .returned (.string r) ∧ Below w.heap.size w w' := by
  unfold jotterlaw17_plain.f at h
  by_cases hc : 0 ≤ a1 ∧ a0.size ≤ 140737488355328
  case neg => rw [if_neg hc] at h; cases h
  rw [if_pos hc] at h
  have h := Option.some.inj h
  obtain ⟨h0, hsz⟩ := hc
  have HR := Aside0.mk h
  clear h
  have kb := fun W => print_bytes (P := Try.prog) 9 49 5 Try.underlying9 Try.underlying49 Try.underlying5 a0 W
  obtain ⟨n, hn⟩ : ∃ n, n = min a0.size a1.toNat := ⟨_, rfl⟩
  have HN := Aside0.mk hn
  have hns : n ≤ a0.size := by omega
  obtain ⟨cp, hcp⟩ : ∃ cp, cp = grownCap w a0.size 0 5 := ⟨_, rfl⟩
  have hcap : a0.size ≤ cp := by rw [hcp]; exact grownCap_ge _ _ _ _
  have hkb := kb w
  rw [← hcp] at hkb
  have HB0 : Aside0 (Below w.heap.size w (Lib.bytesWorld w 5 a0)) := ⟨bytes_below (Below.refl _ _) (Nat.le_refl _) 5 a0⟩
  have HT0 : Aside0 (BlkI .u8 (Lib.bytesWorld w 5 a0) w.heap.size 5 a0.size (fun j => (bytesOf a0).getD j 0)) := ⟨blk_bytes w a0⟩
  obtain ⟨w1, hw1⟩ : ∃ w1, w1 = Lib.bytesWorld w 5 a0 := ⟨_, rfl⟩
  rw [← hw1] at hkb HB0 HT0
  clear hw1 kb hcp hn
  go_enter Try.func11, Try.ntmps11
  go_upto_if 12 with (fail)
  go_cut [5] (fun v5 wc => v5 = .slice (some ⟨w.heap.size, 0, none⟩) n cp ∧ wc = w1)
  case first =>
    by_cases hl : (a0.size : Int) > a1
    · have t1 : decide ((a0.size : Int) > a1) = true := decide_eq_true hl
      have t2 : decide (a1 < (a0.size : Int)) = true := decide_eq_true hl
      obtain ⟨i0, hi0, _, hsz0, _⟩ := info_parts info5
      have hcut := cut_to (P := Try.prog) 49 5 .i64 Try.underlying49 hi0 (some ⟨w.heap.size, 0, none⟩) a0.size cp a1 h0 (by omega) hcap
      have hnn : a1.toNat = n := by have := HN.out; omega
      rw [hnn] at hcut
      go_wp2
      go_meet
      case rel => exact ⟨rfl, rfl⟩
    · have t1 : decide ((a0.size : Int) > a1) = false := decide_eq_false hl
      have t2 : decide (a1 < (a0.size : Int)) = false := decide_eq_false hl
      have hnn : n = a0.size := by have := HN.out; omega
      go_wp2
      go_meet
      case rel => exact ⟨by rw [hnn], rfl⟩
  case rest =>
    obtain ⟨rfl, rfl⟩ := hcut
    clear hkb
    go_wp2
    go_loopw [6] (fun v6 wr => ∃ i : Nat, i ≤ n ∧ v6 = .int .i64 i ∧ Aside0 (BlkI .u8 wr w.heap.size 5 n (fixF a0 i)) ∧ Aside0 (Below w.heap.size w wr)) (fun v6 _ => n - (intOf v6).toNat)
    case atStart =>
      refine ⟨0, Nat.zero_le _, rfl, ⟨?_⟩, HB0⟩
      obtain ⟨C, fz, g1, g2, g3, g4⟩ := HT0.out.at_
      exact ⟨HT0.out.lt, C, fz, g1, g2.imp id (fun h => by omega), by omega, fun j hj => by rw [g4 j (by omega)]; simp [fixF]⟩
    case round =>
      obtain ⟨i, hi, rfl, HT, HB⟩ := hrel
      by_cases hlt : i < n
      · have hrg := byte_range a0 i
        obtain ⟨c, hc⟩ : ∃ c, c = (bytesOf a0).getD i 0 := ⟨_, rfl⟩
        rw [← hc] at hrg
        have hcell := HT.out.cell hlt
        have hfz := HT.out.frozen hlt
        have hfx : fixF a0 i i = c := by unfold fixF; rw [if_neg (by omega), hc]
        rw [hfx] at hcell
        have HC := Aside0.mk hc
        clear hc hfx
        by_cases hbad : c < 32 ∨ c > 126
        · have hx : fixB c = 32 + c % 95 := if_pos hbad
          have HT2 := HT.out.set hlt (32 + c % 95)
          have HB2 := Aside0.mk (blk_below_set HB.out (Nat.le_refl w.heap.size) i (.int .u8 (32 + c % 95)))
          have HT3 : Aside0 (BlkI .u8 (wr.setCell ⟨w.heap.size, i, none⟩ (.int .u8 (32 + c % 95))) w.heap.size 5 n (fixF a0 (i + 1))) := ⟨HT2.congr (fun j hj => by
            unfold fixF
            by_cases e : j = i
            · subst e; rw [if_pos rfl, if_pos (by omega), ← HC.out, hx]
            · rw [if_neg e]
              by_cases e2 : j < i
              · rw [if_pos e2, if_pos (by omega)]
              · rw [if_neg e2, if_neg (by omega)])⟩
          clear HT HB HT2 hx
          by_cases h1 : c < 32
          · have t1 : decide (c < 32) = true := decide_eq_true h1
            go_wp2
            go_roundw
            case rel => exact ⟨i + 1, by omega, by go_num, HT3, HB2⟩
            case measure => simp [intOf]; omega
          · have t1 : decide (c < 32) = false := decide_eq_false h1
            have t2 : decide (c > 126) = true := decide_eq_true (by omega)
            have t3 : decide (126 < c) = true := decide_eq_true (by omega)
            go_wp2
            go_roundw
            case rel => exact ⟨i + 1, by omega, by go_num, HT3, HB2⟩
            case measure => simp [intOf]; omega
        · have hx : fixB c = c := if_neg hbad
          have HT3 : Aside0 (BlkI .u8 wr w.heap.size 5 n (fixF a0 (i + 1))) := ⟨HT.out.congr (fun j hj => by
            unfold fixF
            by_cases e : j = i
            · subst e; rw [if_neg (by omega), if_pos (by omega), ← HC.out, hx]
            · by_cases e2 : j < i
              · rw [if_pos e2, if_pos (by omega)]
              · rw [if_neg e2, if_neg (by omega)])⟩
          clear HT hx
          have t1 : decide (c < 32) = false := decide_eq_false (by omega)
          have t2 : decide (c > 126) = false := decide_eq_false (by omega)
          have t3 : decide (126 < c) = false := decide_eq_false (by omega)
          go_wp2
          go_roundw
          case rel => exact ⟨i + 1, by omega, by go_num, HT3, HB⟩
          case measure => simp [intOf]; omega
      · obtain rfl : i = n := by omega
        have hread : ReadsInt wr .u8 (some ⟨w.heap.size, 0, none⟩) i (plainL a0 i) := by
          refine ⟨plainL_length a0 hns, by omega, fun _ => ⟨_, rfl, fun j hj => ?_⟩⟩
          rw [add_plain, HT.out.cell hj, fix_at a0 hns hj]
          simp [fixF, hj]
        have hstr := string_of_reads (P := Try.prog) (src := 49) (dst := 9) (c := cp) Try.underlying49 Try.underlying5 Try.underlying9 hread
        have HE : Aside0 (strOfNums (plainL a0 i) = r) := ⟨by
          rw [← HR.out]
          have := HN.out
          by_cases e : a1.toNat ≤ a0.size
          · rw [show i = a1.toNat by omega]
          · have e2 : plainL a0 i = plainL a0 a1.toNat := by
              unfold plainL
              rw [List.take_of_length_le (by rw [bytesOf_length]; omega), List.take_of_length_le (by rw [bytesOf_length]; omega)]
            rw [e2]⟩
        clear HT hread
        go_wp2
        go_ret
        exact ⟨by rw [← HE.out]; rfl, HB.out⟩
end Go.Proofs.Ytjnciljimacblaa.Q
