/- Numbers with and without a sign as texts: what the library's FormatInt and FormatUint tell at base ten. -/
import Derived.Test.YtohbpgdhpfmlgaaDoorG0
import Derived.Lib.ItoaMem
import Derived.Lib.AppendIntMem
import Derived.WalkKit
import Derived.BigCall
import Derived.BigGuard
namespace Go.Proofs.YtohbpgdhpfmlgaaDoor.PA
open Go.Shelf Go.RowKit Go.Sort Go.Lib Go.Proofs.YtohbpgdhpfmlgaaDoorW.PrintWords
set_option linter.unusedVariables false
/-- The table of the powers of ten lies as it was laid. -/
def LT (w : World) : Prop := Lib.TabIs Tryd.prog w "internal/strconv.uint64pow10" .u64 Lib.pow10Tab
theorem LT.step {w w' : World} (h : LT w) (hb : Below w.heap.size w w') : LT w' := Lib.tabBelow_of_tabIs h w' hb
set_option maxHeartbeats 6400000 in
set_option maxRecDepth 100000 in
theorem fmtU_in (u : Nat) (hu64 : u < 18446744073709551616) (w : World) (htab : LT w) :
    Calls Tryd.prog 42 #[.int .u64 u, .int .i64 10] w fun e w' => e = .returned (.string ⟨(Lib.decDigits u).toArray⟩) ∧ ∃ k os, w' = grow (w.drewN k) os := by
  unfold LT at htab
  by_cases hs : u < 100
  · go_enter Tryd.func42, Tryd.ntmps42
    go_wp2_with (go_at_call 52; refine (Tryd.internal_strconv_small u hs _).mono ?_; rintro e w' ⟨rfl, rfl⟩)
    go_ret
    exact ⟨rfl, 0, #[], by simp [World.drewN_zero]⟩
  · have hu1 : 1 ≤ u := by omega
    have hs' : (100 : Int) ≤ (u : Int) := by omega
    have hnd20 : Lib.nDigits u ≤ 20 := by have := Lib.numDigits_eq u hu1 hu64; split at this <;> omega
    have hb3 : Lib.nDigits u ≤ 24 := by omega
    have hal : Tryd.prog.arrayLen 74 = 24 := by kernel_rfl
    have hsl1 : ∀ W, (Instr.sliceAt 74 (.pointer (some ⟨w.heap.size, 0, none⟩)) none (some (.int .i64 (Lib.nDigits u : Int))) none).run Tryd.prog W = .ok (.slice (some ⟨w.heap.size, 0, none⟩) (Lib.nDigits u) 24) W := fun W => by
      rw [run_sliceAt_array_h W 74 ⟨w.heap.size, 0, none⟩ (by simp [Program.arrayLen, Program.elem, Tryd.underlying74]) .i64 (Lib.nDigits u : Int) (by omega) (by rw [hal]; omega)]
      go_simp
    have hH0 := Lib.holds_zero0 w 74 (Lib.nDigits u) (by omega)
    have hfmt := Tryd.internal_strconv_formatBase10 w.heap.size 0 24 u (Array.replicate (Lib.nDigits u) 0) (w.alloc (.cells Lib.zeros24 74)) hH0 (by rw [Array.size_replicate]; exact Lib.lt_pow_nDigits u) hu64 (by rw [Array.size_replicate]; omega)
    rw [Array.size_replicate] at hfmt
    have HH0 := Lib.hid hH0
    clear hH0 hal
    go_enter Tryd.func42, Tryd.ntmps42
    go_wp2_with (first
      | (go_at_call 53; refine (Tryd.internal_strconv_numDigits u hu1 hu64 _ (Lib.tabIs_alloc htab _)).mono ?_; rintro e w' ⟨rfl, rfl⟩))
    go_at_call 54
    refine hfmt.mono ?_
    rintro e w' ⟨rfl, k, v', dk, rfl, hF⟩
    have hcv : (convert 65 9 (.slice (some ⟨w.heap.size, 0, none⟩) (Lib.nDigits u) 24)).run Tryd.prog ((putRow (fun (b : UInt8) => Value.int .u8 (b.toNat : Int)) (w.alloc (.cells Lib.zeros24 74)) w.heap.size 0 dk).drewN k) = .ok (.string ⟨(Lib.decDigits u).toArray⟩) ((putRow (fun (b : UInt8) => Value.int .u8 (b.toNat : Int)) (w.alloc (.cells Lib.zeros24 74)) w.heap.size 0 dk).drewN k) := by
      have h := run_convert_bytes_back (P := Tryd.prog) ((putRow (fun (b : UInt8) => Value.int .u8 (b.toNat : Int)) (w.alloc (.cells Lib.zeros24 74)) w.heap.size 0 dk).drewN k) 65 9 5 ⟨w.heap.size, 0, none⟩ 24 (Lib.decDigits u) Tryd.underlying65 Tryd.underlying5 Tryd.underlying9 (fun j hj => by
        rw [Lib.row_is_numeral hF j hj, Lib.add_plain, World.cell?_drewN]
        exact cell?_putRow (fun (b : UInt8) => Value.int .u8 (b.toNat : Int)) _ w.heap.size 0 _ dk HH0.out (by rw [hF.size, Array.size_replicate]) j (by rw [hF.size]; rw [Lib.decDigits_length] at hj; exact hj))
      rw [Lib.decDigits_length] at h
      exact h
    go_wp2
    go_ret
    obtain ⟨os, eo⟩ := Lib.fin_at w (.cells Lib.zeros24 74) dk k 0
    exact ⟨rfl, k, os, eo⟩
/-- strconv.FormatUint, at base ten. -/
def strconv_FormatUint_28.f (a0 : Int) (a1 : Int) : Option ByteArray := if a1 = 10 ∧ 0 ≤ a0 ∧ a0 < 18446744073709551616 then some ⟨(Lib.decDigits a0.toNat).toArray⟩ else none
/-- strconv.FormatInt, at base ten. -/
def strconv_FormatInt_27.f (a0 : Int) (a1 : Int) : Option ByteArray := if a1 = 10 ∧ -9223372036854775808 ≤ a0 ∧ a0 < 9223372036854775808 then some ⟨(Lib.itoa a0).toArray⟩ else none
set_option maxRecDepth 100000 in
theorem strconv_FormatUint_28.calls (a0 : Int) (a1 : Int) (r : ByteArray) (w : World) (HT : Aside0 (LT w)) (h : strconv_FormatUint_28.f a0 a1 = some r) :
    Calls Tryd.prog 28 #[.int .u64 a0, .int .i64 a1] w fun e w' => e = .returned (.string r) ∧ Below w.heap.size w w' := by
  unfold strconv_FormatUint_28.f at h
  by_cases hc : a1 = 10 ∧ 0 ≤ a0 ∧ a0 < 18446744073709551616
  · rw [if_pos hc] at h
    obtain ⟨rfl, h0, h1⟩ := hc
    obtain rfl := Option.some.inj h
    obtain ⟨u, rfl⟩ := Int.eq_ofNat_of_zero_le h0
    have htab := HT.out
    clear h
    have hu : u < 18446744073709551616 := by omega
    clear h1
    rw [Int.toNat_natCast]
    go_enter Tryd.func28, Tryd.ntmps28
    go_wp2_with (go_at_call 42; refine (fmtU_in u hu _ htab).mono ?_; rintro e w' ⟨rfl, k, os, rfl⟩)
    go_ret
    exact ⟨rfl, Lib.below_grow _ _ (Nat.le_refl _) k os⟩
  · rw [if_neg hc] at h; cases h
theorem strconv_FormatInt_27.calls (a0 : Int) (a1 : Int) (r : ByteArray) (w : World) (HT : Aside0 (LT w)) (h : strconv_FormatInt_27.f a0 a1 = some r) :
    Calls Tryd.prog 27 #[.int .i64 a0, .int .i64 a1] w fun e w' => e = .returned (.string r) ∧ Below w.heap.size w w' := by
  unfold strconv_FormatInt_27.f at h
  by_cases hc : a1 = 10 ∧ -9223372036854775808 ≤ a0 ∧ a0 < 9223372036854775808
  · rw [if_pos hc] at h
    obtain ⟨rfl, h0, h1⟩ := hc
    obtain rfl := Option.some.inj h
    refine (Tryd.strconv_FormatInt_10 a0 h0 (by omega) w HT.out).mono ?_
    rintro e w' ⟨rfl, k, os, rfl⟩
    exact ⟨rfl, Lib.below_grow _ _ (Nat.le_refl _) k os⟩
  · rw [if_neg hc] at h; cases h
end Go.Proofs.YtohbpgdhpfmlgaaDoor.PA
