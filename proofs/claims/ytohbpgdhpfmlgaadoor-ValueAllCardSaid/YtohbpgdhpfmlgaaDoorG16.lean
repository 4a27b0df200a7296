/- The reference's Text tells what value.Text tells. -/
import Derived.Test.YtohbpgdhpfmlgaaDoorG14
import Derived.Test.YtohbpgdhpfmlgaaDoorPCx1
import Derived.Outline
import Derived.Deep.LoopGhost
import Derived.Deep.RegionHeld3
import Derived.Deep.DeepCutAuto
import Derived.BigQuiet
namespace Go.Proofs.YtohbpgdhpfmlgaaDoor.PA
set_option linter.unusedVariables false
set_option linter.unusedSimpArgs false
open Go.Lib Go.RowKit Go.Proofs.YtohbpgdhpfmlgaaDoorW.PrintWords Go.Proofs.YtohbpgdhpfmlgaaDoorW.PrintLast Go.Proofs.YtohbpgdhpfmlgaaDoorW.PrintMore
def refText.T15 : Bool × List (List Nat × List Nat) := (true, [([], []), ([0], [0]), ([], []), ([], []), ([3], [3]), ([], []), ([5], [5]), ([6], [6]), ([2, 4, 7], [2, 4, 7]), ([1, 8], [1, 8]), ([], []), ([], []), ([11], [11]), ([], []), ([13], [13]), ([14], [14]), ([10, 12, 15], [10, 12, 15]), ([9, 16], [9, 16]), ([17, 0, 1, 2, 3, 4, 5, 6, 7, 8, 9, 10, 11, 12, 13, 14, 15, 16, 17], [0, 17])])
def refText.B15 : List Nat := [0, 1, 0, 0, 8, 0, 32, 96, 252, 511, 0, 0, 2048, 0, 8192, 24576, 64512, 131071, 262143]
theorem refText.tab15 : rtab .any (opsOf Tryd.f23 15) = refText.T15 := by kernel_rfl
theorem refText.bits15 : waitsOk refText.T15.2 refText.B15 = true := by kernel_rfl
theorem dig_ext (n : Nat) (h : n < 10) : (⟨#[48, 49, 50, 51, 52, 53, 54, 55, 56, 57]⟩ : ByteArray).extract n (n + 1) = ⟨[UInt8.ofNat (48 + n)].toArray⟩ := by
  apply toList_inj
  rw [Lib.extract_data]
  match n, h with
  | 0, _ => rfl
  | 1, _ => rfl
  | 2, _ => rfl
  | 3, _ => rfl
  | 4, _ => rfl
  | 5, _ => rfl
  | 6, _ => rfl
  | 7, _ => rfl
  | 8, _ => rfl
  | 9, _ => rfl
theorem digits_l0 : ∀ (d k : Nat) (u i : Nat) (acc : List UInt8), Lib.nDigits u ≤ d → i + d ≤ 20 → acc.length = i → d + 1 ≤ k → u < 18446744073709551616 →
    PC.thresherref03_digits.l0 k (u : Int) ⟨acc.toArray⟩ (i : Int) = some ⟨(Lib.decDigits u ++ acc).toArray⟩
  | 0, k, u, i, acc, hd, hi, ha, hk, hu => by
    have := dec_len u
    rw [Lib.decDigits_length] at this
    omega
  | d + 1, k, u, i, acc, hd, hi, ha, hk, hu => by
    obtain ⟨k, rfl⟩ : ∃ q, k = q + 1 := ⟨k - 1, by omega⟩
    have e1 : Int.tmod (u : Int) 10 = ((u % 10 : Nat) : Int) := by rw [Int.tmod_eq_emod_of_nonneg (by omega)]; omega
    have e2 : Int.tdiv (u : Int) 10 = ((u / 10 : Nat) : Int) := by rw [Int.tdiv_eq_ediv_of_nonneg (by omega)]; omega
    have e3 : IntKind.u64.wrap (((u % 10 : Nat) : Int) + 1) = ((u % 10 + 1 : Nat) : Int) := by rw [IntKind.wrap_u64]; omega
    have e4 : IntKind.u64.wrap ((u / 10 : Nat) : Int) = ((u / 10 : Nat) : Int) := by rw [IntKind.wrap_u64]; omega
    simp only [PC.thresherref03_digits.l0, e1, e2, e3, e4, Int.toNat_natCast]
    rw [if_pos (by omega), if_pos (by omega), if_pos (by omega), if_pos (by omega), dig_ext _ (by omega)]
    have hsz : (⟨[UInt8.ofNat (48 + u % 10)].toArray⟩ : ByteArray).size + (⟨acc.toArray⟩ : ByteArray).size ≤ 9223372036854775807 := by
      rw [size_mk, size_mk]; simp; omega
    rw [if_pos hsz]
    have hap : (⟨[UInt8.ofNat (48 + u % 10)].toArray⟩ : ByteArray) ++ ⟨acc.toArray⟩ = ⟨(UInt8.ofNat (48 + u % 10) :: acc).toArray⟩ := by
      apply toList_inj; simp
    rw [hap]
    by_cases h0 : u / 10 = 0
    · rw [if_pos (by omega)]
      rw [Lib.decDigits, dif_pos (by omega)]
      have : u % 10 = u := by omega
      rw [this]; rfl
    · rw [if_neg (by omega), show wrap64 ((i : Int) + 1) = ((i + 1 : Nat) : Int) by unfold wrap64; omega]
      have hnd : Lib.nDigits (u / 10) ≤ d := by
        have h1 := Lib.decDigits_length u
        rw [Lib.decDigits, dif_neg (by omega), List.length_append, Lib.decDigits_length] at h1
        simp at h1; omega
      rw [digits_l0 d k (u / 10) (i + 1) _ hnd (by omega) (by simp; omega) (by omega) (by omega)]
      conv => rhs; rw [Lib.decDigits, dif_neg (by omega)]
      simp
theorem digits_of (u : Nat) (hu : u < 18446744073709551616) : PC.thresherref03_digits.f 30 (u : Int) = some ⟨(Lib.decDigits u).toArray⟩ := by
  have h := digits_l0 20 30 u 0 [] (by have := dec_len20 u hu; rw [Lib.decDigits_length] at this; exact this) (by omega) rfl (by omega) hu
  rw [List.append_nil] at h
  exact h
theorem sadd (a b : ByteArray) (h : a.size + b.size ≤ 1000) (W : World) : (Op.stringOp .add a b).run Tryd.prog W = .ok (.string (a ++ b)) W := by
  unfold Op.stringOp
  simp only
  rw [if_neg (by show ¬ (((a.size + b.size : Nat) : Int) > 9223372036854775807); omega)]
  rfl
def hexS : ByteArray := ⟨#[48, 49, 50, 51, 52, 53, 54, 55, 56, 57, 97, 98, 99, 100, 101, 102]⟩
theorem hex_ext (n : Nat) (h : n < 16) : (hexS.extract n (n + 1)).data.toList = [hexL.getD n 0] := by
  rw [Lib.extract_data]
  match n, h with
  | 0, _ => rfl
  | 1, _ => rfl
  | 2, _ => rfl
  | 3, _ => rfl
  | 4, _ => rfl
  | 5, _ => rfl
  | 6, _ => rfl
  | 7, _ => rfl
  | 8, _ => rfl
  | 9, _ => rfl
  | 10, _ => rfl
  | 11, _ => rfl
  | 12, _ => rfl
  | 13, _ => rfl
  | 14, _ => rfl
  | 15, _ => rfl
  | q + 16, h => omega
theorem hexes (c : UInt8) (hq : qc c = [92, hexL.getD (c.toNat / 16) 0, hexL.getD (c.toNat % 16) 0]) : ∃ (q r2 : Nat) (hx1 hx2 : ByteArray), IntKind.u8.wrap ((c.toNat : Int) / 16) = (q : Int) ∧ IntKind.u8.wrap ((q : Int) + 1) = (q : Int) + 1 ∧ Int.tmod (c.toNat : Int) 16 = (r2 : Int) ∧ IntKind.u8.wrap ((r2 : Int) + 1) = (r2 : Int) + 1 ∧
    (∀ W, (Instr.slice 9 (.string ⟨#[48, 49, 50, 51, 52, 53, 54, 55, 56, 57, 97, 98, 99, 100, 101, 102]⟩) (some (.int .u8 (q : Int))) (some (.int .u8 ((q : Int) + 1))) none).run Tryd.prog W = .ok (.string hx1) W) ∧
    (∀ W, (Instr.slice 9 (.string ⟨#[48, 49, 50, 51, 52, 53, 54, 55, 56, 57, 97, 98, 99, 100, 101, 102]⟩) (some (.int .u8 (r2 : Int))) (some (.int .u8 ((r2 : Int) + 1))) none).run Tryd.prog W = .ok (.string hx2) W) ∧
    hx1.size ≤ 1 ∧ hx2.size ≤ 1 ∧ [92] ++ (hx1.data.toList ++ hx2.data.toList) = qc c ∧ True := by
  have hc : c.toNat < 256 := c.toNat_lt
  have hsz : hexS.size = 16 := rfl
  have sl : ∀ n : Nat, n < 16 → ∀ W, (Instr.slice 9 (.string hexS) (some (.int .u8 (n : Int))) (some (.int .u8 ((n : Int) + 1))) none).run Tryd.prog W = .ok (.string (hexS.extract n (n + 1))) W := fun n hn W => by
    have := run_slice_string (P := Tryd.prog) W 9 hexS .u8 .u8 (n : Int) ((n : Int) + 1) Tryd.underlying9 (by omega) (by omega) (by omega)
    rw [this]
    congr 2
  refine ⟨c.toNat / 16, c.toNat % 16, hexS.extract (c.toNat / 16) (c.toNat / 16 + 1), hexS.extract (c.toNat % 16) (c.toNat % 16 + 1), ?_, ?_, ?_, ?_, sl _ (by omega), sl _ (by omega), ?_, ?_, ?_, trivial⟩
  · rw [IntKind.wrap_u8]; omega
  · rw [IntKind.wrap_u8]; omega
  · rw [Int.tmod_eq_emod_of_nonneg (by omega)]; omega
  · rw [IntKind.wrap_u8]; omega
  · rw [ByteArray.size_extract]; omega
  · rw [ByteArray.size_extract]; omega
  · rw [hex_ext _ (by omega), hex_ext _ (by omega), hq]; rfl
theorem rfits_b (k n : Int) (s : ByteArray) (m : Nat) : PC.thresherref03_Fits.f (m + 1) k n s = some (fitB k n s) := by
  simp only [PC.thresherref03_Fits.f, PC.thresherref03_Fits.j0, nil_eq, fitB]
  by_cases h1 : k = 1
  · subst h1; simp
  · by_cases h2 : k = 2
    · subst h2; simp
    · by_cases h3 : k = 3
      · subst h3
        by_cases h4 : n = 0
        · subst h4; simp; omega
        · simp [h4]
      · simp [h1, h2, h3]
theorem fitP_of {k n : Int} {s : ByteArray} (h : fitB k n s = true) (l : -9223372036854775808 ≤ n) (u : n < 9223372036854775808) : FitP k n s := by
  unfold fitB at h
  split at h
  · rename_i e
    have := of_decide_eq_true h
    exact ⟨Or.inr (Or.inr e), fun _ => this, fun e' => absurd e e', l, u⟩
  · rename_i e
    have := of_decide_eq_true h
    exact ⟨by omega, fun e' => absurd e' e, fun _ => this.2, l, u⟩
set_option maxHeartbeats 8000000 in
set_option maxRecDepth 100000 in
theorem refText (k n : Int) (s r : ByteArray) (h : value_Text.f 1 k n s = some r) (l : -9223372036854775808 ≤ n) (u : n < 9223372036854775808) (w : World) :
    Calls Tryd.prog 23 #[.int .i64 k, .agg #[.int .i64 n, .string s]] w fun e w' => e = .returned (.string r) ∧ Below w.heap.size w w' := by
  have FB := Aside0.mk (fun W => PC.thresherref03_Fits.calls 1 k n s _ W (rfits_b k n s 0))
  have S := Aside0.mk ((ST.start w).new #[.int .i64 n, .string s] 23)
  have cx0 : (w.alloc (.cells #[.int .i64 n, .string s] 23)).cell? ⟨w.heap.size, 0, none⟩ = some (.int .i64 n) := ST.cell (j := 0) S.out rfl 0
  have cx1 : (w.alloc (.cells #[.int .i64 n, .string s] 23)).cell? ⟨w.heap.size, 1, none⟩ = some (.string s) := ST.cell (j := 0) S.out rfl 1
  cases hb : fitB k n s with
  | false =>
    have hr : r = ⟨#[]⟩ := by
      have := text_bad k n s hb
      rw [this] at h; exact (Option.some.inj h).symm
    subst hr
    rw [hb] at FB
    clear hb h
    go_enter Tryd.func23, Tryd.ntmps23
    go_wp2_with fail
    refine (FB.out _).mono ?_
    rintro e w1 ⟨rfl, hb⟩
    replace S := Aside0.mk (S.out.step hb)
    clear hb cx0 cx1
    go_wp2
    go_ret
    exact ⟨rfl, S.out.b⟩
  | true =>
    have hp := fitP_of hb l u
    have hnb := hp.2.1
    rw [hb] at FB
    clear hb
    rcases hp.1 with rfl | rfl | rfl
    · have hs := hp.2.2.1 (by decide)
      subst hs
      have hr : r = ⟨(Lib.itoa n).toArray⟩ := by rw [text_i hp 0] at h; exact (Option.some.inj h).symm
      clear h hnb
      by_cases hn : n < 0
      · obtain ⟨m, rfl⟩ : ∃ m : Nat, n = -(m : Int) := ⟨n.natAbs, by omega⟩
        have hm : m < 18446744073709551616 := by omega
        have hw : IntKind.u64.wrap (-IntKind.u64.wrap (-(m : Int))) = (m : Int) := by rw [IntKind.wrap_u64, IntKind.wrap_u64]; omega
        have DG := Aside0.mk (fun W => Calls.below (PC.thresherref03_digits.calls 30 (m : Int) _ W (digits_of m hm)))
        have hds : (⟨(Lib.decDigits m).toArray⟩ : ByteArray).size ≤ 20 := by rw [size_mk]; exact dec_len20 m hm
        have HR := Aside0.mk (show (⟨#[45]⟩ : ByteArray) ++ ⟨(Lib.decDigits m).toArray⟩ = r from by
          rw [hr, Lib.itoa_neg m (by omega)]
          apply toList_inj; simp)
        generalize (⟨(Lib.decDigits m).toArray⟩ : ByteArray) = ds at DG hds HR
        clear hr hp hm
        have hd1 : decide (-(m : Int) < 0) = true := decide_eq_true hn
        go_enter Tryd.func23, Tryd.ntmps23
        go_wp2_with fail
        refine (FB.out _).mono ?_
        rintro e w1 ⟨rfl, hb⟩
        replace S := Aside0.mk (S.out.step hb)
        clear hb cx0 cx1
        have cx0 : w1.cell? ⟨w.heap.size, 0, none⟩ = some (.int .i64 (-(m : Int))) := ST.cell (j := 0) S.out rfl 0
        go_wp2_with fail
        refine (DG.out _).mono ?_
        rintro e w2 ⟨rfl, hb⟩
        replace S := Aside0.mk (S.out.step hb)
        clear hb cx0
        go_wp2
        go_ret
        exact ⟨by rw [HR.out]; rfl, S.out.b⟩
      · obtain ⟨m, rfl⟩ := Int.eq_ofNat_of_zero_le (by omega : 0 ≤ n)
        have hm : m < 18446744073709551616 := by omega
        have hw : IntKind.u64.wrap (m : Int) = (m : Int) := by rw [IntKind.wrap_u64]; omega
        have DG := Aside0.mk (fun W => Calls.below (PC.thresherref03_digits.calls 30 (m : Int) _ W (digits_of m hm)))
        have HR := Aside0.mk (show (⟨(Lib.decDigits m).toArray⟩ : ByteArray) = r from by rw [hr, Lib.itoa_nonneg])
        clear hr hp hm
        have hd1 : decide ((m : Int) < 0) = false := decide_eq_false hn
        go_enter Tryd.func23, Tryd.ntmps23
        go_wp2_with fail
        refine (FB.out _).mono ?_
        rintro e w1 ⟨rfl, hb⟩
        replace S := Aside0.mk (S.out.step hb)
        clear hb cx0 cx1
        have cx0 : w1.cell? ⟨w.heap.size, 0, none⟩ = some (.int .i64 (m : Int)) := ST.cell (j := 0) S.out rfl 0
        go_wp2_with fail
        refine (DG.out _).mono ?_
        rintro e w2 ⟨rfl, hb⟩
        replace S := Aside0.mk (S.out.step hb)
        clear hb cx0
        go_wp2
        go_ret
        exact ⟨by rw [HR.out]; rfl, S.out.b⟩
    · have hs := hp.2.2.1 (by decide)
      subst hs
      have hr : r = ⟨(Lib.decDigits (IntKind.u64.wrap n).toNat).toArray⟩ := by rw [text_u hp 0] at h; exact (Option.some.inj h).symm
      clear h hnb
      have hur := u_rng n
      have hm : (IntKind.u64.wrap n).toNat < 18446744073709551616 := by omega
      have DG := Aside0.mk (fun W => Calls.below (PC.thresherref03_digits.calls 30 ((IntKind.u64.wrap n).toNat : Int) _ W (digits_of _ hm)))
      rw [Int.toNat_of_nonneg hur.1] at DG
      have HR := Aside0.mk hr
      clear hr hp hm hur
      go_enter Tryd.func23, Tryd.ntmps23
      go_wp2_with fail
      refine (FB.out _).mono ?_
      rintro e w1 ⟨rfl, hb⟩
      replace S := Aside0.mk (S.out.step hb)
      clear hb cx0 cx1
      have cx0 : w1.cell? ⟨w.heap.size, 0, none⟩ = some (.int .i64 n) := ST.cell (j := 0) S.out rfl 0
      go_wp2_with fail
      refine (DG.out _).mono ?_
      rintro e w2 ⟨rfl, hb⟩
      replace S := Aside0.mk (S.out.step hb)
      clear hb cx0
      go_wp2
      go_ret
      exact ⟨by rw [HR.out]; rfl, S.out.b⟩
    · obtain ⟨rfl, hs60⟩ := hnb rfl
      have HR := Aside0.mk (show (⟨(qL s.data.toList ++ [34]).toArray⟩ : ByteArray) = r from by
        have hf := fits_of hp 0
        simp only [value_Text.f, hf, Option.bind_some, if_true, value_quoted.f] at h
        rw [if_neg (by decide), if_neg (by decide), if_pos hs60] at h
        exact Option.some.inj h)
      clear h hp
      go_enter Tryd.func23, Tryd.ntmps23
      go_wp2_with fail
      refine (FB.out _).mono ?_
      rintro e w1 ⟨rfl, hb⟩
      replace S := Aside0.mk (S.out.step hb)
      clear hb cx0 cx1
      have cx0 : w1.cell? ⟨w.heap.size, 0, none⟩ = some (.int .i64 0) := ST.cell (j := 0) S.out rfl 0
      have cx1 : w1.cell? ⟨w.heap.size, 1, none⟩ = some (.string s) := ST.cell (j := 0) S.out rfl 1
      go_wp2_with fail
      clear cx0 cx1
      go_loopg [6, 8] s.size (fun kq v6 v8 w' => ∃ (j : Nat) (o : ByteArray), v8 = .int .i64 j ∧ v6 = .string o ∧ Aside0 (j + kq = s.size) ∧ Aside0 (o.data.toList = qL (s.data.toList.take j)) ∧ Aside0 (ST w w' [(w.heap.size, #[.int .i64 0, .string s], 23)]))
      case atStart => exact ⟨0, ⟨#[34]⟩, rfl, rfl, ⟨by omega⟩, ⟨rfl⟩, ⟨S.out⟩⟩
      case round =>
        obtain ⟨j, o, rfl, rfl, HJ, HO, S'⟩ := hrel
        clear S
        have hj := HJ.out
        have hos : o.size ≤ 200 := by
          have h1 := qL_len (s.data.toList.take j)
          have h2 : (s.data.toList.take j).length ≤ s.size := by
            have := List.length_take_le' j s.data.toList
            simpa using this
          have h3 : o.data.toList.length = o.size := by simp
          rw [← h3, HO.out]; omega
        have cx1 : wr.cell? ⟨w.heap.size, 1, none⟩ = some (.string s) := ST.cell (j := 0) S'.out rfl 1
        by_cases hlt : j < s.size
        · obtain ⟨f, rfl⟩ : ∃ f, gk = f + 1 := ⟨gk - 1, by omega⟩
          have hgd : s.data.toList.getD j 0 = s[j]'hlt := by simp [List.getD, hlt]; rfl
          have HS := Aside0.mk (show qL (s.data.toList.take (j + 1)) = qL (s.data.toList.take j) ++ qc (s[j]'hlt) by rw [take_snoc' s j hlt, qL_snoc, hgd])
          clear hgd
          have hc256 : (s[j]'hlt).toNat < 256 := (s[j]'hlt).toNat_lt
          by_cases ho : odd (s[j]'hlt) = true
          · have hs1 : (s[j]'hlt).toNat < 32 ∨ ¬ (s[j]'hlt).toNat < 32 ∧ ((s[j]'hlt).toNat > 126 ∨ ¬ (s[j]'hlt).toNat > 126 ∧ ((s[j]'hlt).toNat = 34 ∨ ¬ (s[j]'hlt).toNat = 34 ∧ (s[j]'hlt).toNat = 92)) := by
              simp [odd] at ho; omega
            have HQ := Aside0.mk (show qc (s[j]'hlt) = [92, hexL.getD ((s[j]'hlt).toNat / 16) 0, hexL.getD ((s[j]'hlt).toNat % 16) 0] by unfold qc; rw [if_pos ho])
            clear ho
            obtain ⟨q, r2, hx1, hx2, e63, e66, e71, e74, fs1, fs2, hz1, hz2, hd1, hd2⟩ := hexes (s[j]'hlt) HQ.out
            have HX := Aside0.mk (show (((o ++ ⟨#[92]⟩) ++ hx1) ++ hx2).data.toList = o.data.toList ++ qc (s[j]'hlt) from by
              rw [ByteArray.data_append, ByteArray.data_append, ByteArray.data_append]
              simp only [Array.toList_append]
              rw [List.append_assoc, List.append_assoc, hd1])
            have ad1 := fun W => sadd o ⟨#[92]⟩ (by show o.size + 1 ≤ 1000; omega) W
            have hoz : (o ++ ⟨#[92]⟩ : ByteArray).size = o.size + 1 := by rw [ByteArray.size_append]; rfl
            have ad2 := fun W => sadd (o ++ ⟨#[92]⟩) hx1 (by omega) W
            have ad3 := fun W => sadd ((o ++ ⟨#[92]⟩) ++ hx1) hx2 (by rw [ByteArray.size_append]; omega) W
            clear hd1 hoz hz1 hz2
            rcases hs1 with h1 | ⟨h1, h2 | ⟨h2, h3 | ⟨h3, h4⟩⟩⟩
            · have b1 : decide (((s[j]'hlt).toNat : Int) < 32) = true := by simp; omega
              go_upto_region 15 with fail
              refine start_ (n := 19) (S := fun w' => True) (ds := []) #[false, false, false, false, false, false, false, false, false, false, false, false, false, false, false, false, false, false, false] (by kernel_rfl) rfl rfl trivial (fun hHeld => ?_); refine with_tabW refText.tab15 refText.bits15 (fun HT_ HW_ => ?_)
              refine pure_ (i := 0) (N := (some 59)) (v := ?_) (a' := ?_) #[true, false, false, false, false, false, false, false, false, false, false, false, false, false, false, false, false, false, false] rfl rfl (any_of HT_.out (by kernel_rfl)) (fun _ _ _ h => h) (Or.inl ⟨by rfl, ?_⟩) ?_ ?_
              rotate_left
              · intro w'
                go_simp
                with_reducible rfl
              rotate_left
              · simp only [Act.put, List.setIfInBounds_toArray, List.set_cons_zero, List.set_cons_succ, i64_w, i32_w]
                rfl
              refine pure_ (i := 1) (N := (some 60)) (v := ?_) (a' := ?_) #[true, true, false, false, false, false, false, false, false, false, false, false, false, false, false, false, false, false, false] rfl rfl (any_of HT_.out (by kernel_rfl)) (fun _ _ _ h => h) (Or.inl ⟨by rfl, ?_⟩) ?_ ?_
              rotate_left
              · intro w'
                go_simp
                with_reducible rfl
              rotate_left
              · simp only [Act.put, List.setIfInBounds_toArray, List.set_cons_zero, List.set_cons_succ, i64_w, i32_w]
                rfl
              refine pure_ (i := 2) (N := (some 61)) (v := ?_) (a' := ?_) #[true, true, true, false, false, false, false, false, false, false, false, false, false, false, false, false, false, false, false] rfl rfl (any_of HT_.out (by kernel_rfl)) (fun _ _ _ h => h) (Or.inl ⟨by rfl, ?_⟩) ?_ ?_
              rotate_left
              · intro w'
                go_simp
                with_reducible rfl
              rotate_left
              · simp only [Act.put, List.setIfInBounds_toArray, List.set_cons_zero, List.set_cons_succ, i64_w, i32_w]
                rfl
              refine pure_ (i := 3) (N := (some 62)) (v := ?_) (a' := ?_) #[true, true, true, true, false, false, false, false, false, false, false, false, false, false, false, false, false, false, false] rfl rfl (any_of HT_.out (by kernel_rfl)) (fun _ _ _ h => h) (Or.inl ⟨by rfl, ?_⟩) ?_ ?_
              rotate_left
              · intro w'
                go_simp
                with_reducible rfl
              rotate_left
              · simp only [Act.put, List.setIfInBounds_toArray, List.set_cons_zero, List.set_cons_succ, i64_w, i32_w]
                rfl
              refine pure_ (i := 4) (N := (some 63)) (v := ?_) (a' := ?_) #[true, true, true, true, true, false, false, false, false, false, false, false, false, false, false, false, false, false, false] rfl rfl (any_of HT_.out (by kernel_rfl)) (fun _ _ _ h => h) (Or.inl ⟨by rfl, ?_⟩) ?_ ?_
              rotate_left
              · intro w'
                go_simp
                with_reducible rfl
              rotate_left
              · simp only [Act.put, List.setIfInBounds_toArray, List.set_cons_zero, List.set_cons_succ, i64_w, i32_w]
                rfl
              refine pure_ (i := 5) (N := (some 64)) (v := ?_) (a' := ?_) #[true, true, true, true, true, true, false, false, false, false, false, false, false, false, false, false, false, false, false] rfl rfl (any_of HT_.out (by kernel_rfl)) (fun _ _ _ h => h) (Or.inl ⟨by rfl, ?_⟩) ?_ ?_
              rotate_left
              · intro w'
                go_simp
                with_reducible rfl
              rotate_left
              · simp only [Act.put, List.setIfInBounds_toArray, List.set_cons_zero, List.set_cons_succ, i64_w, i32_w]
                rfl
              refine pure_ (i := 6) (N := (some 65)) (v := ?_) (a' := ?_) #[true, true, true, true, true, true, true, false, false, false, false, false, false, false, false, false, false, false, false] rfl rfl (any_of HT_.out (by kernel_rfl)) (fun _ _ _ h => h) (Or.inl ⟨by rfl, ?_⟩) ?_ ?_
              rotate_left
              · intro w'
                go_simp
                with_reducible rfl
              rotate_left
              · simp only [Act.put, List.setIfInBounds_toArray, List.set_cons_zero, List.set_cons_succ, i64_w, i32_w]
                rfl
              refine pure_ (i := 7) (N := (some 66)) (v := ?_) (a' := ?_) #[true, true, true, true, true, true, true, true, false, false, false, false, false, false, false, false, false, false, false] rfl rfl (any_of HT_.out (by kernel_rfl)) (fun _ _ _ h => h) (Or.inl ⟨by rfl, ?_⟩) ?_ ?_
              rotate_left
              · intro w'
                go_simp
                with_reducible rfl
              rotate_left
              · simp only [Act.put, List.setIfInBounds_toArray, List.set_cons_zero, List.set_cons_succ, i64_w, i32_w]
                rfl
              refine pure_ (i := 8) (N := (some 67)) (v := ?_) (a' := ?_) #[true, true, true, true, true, true, true, true, true, false, false, false, false, false, false, false, false, false, false] rfl rfl (any_of HT_.out (by kernel_rfl)) (fun _ _ _ h => h) (Or.inl ⟨by rfl, ?_⟩) ?_ ?_
              rotate_left
              · intro w'
                go_simp
                with_reducible rfl
              rotate_left
              · simp only [Act.put, List.setIfInBounds_toArray, List.set_cons_zero, List.set_cons_succ, i64_w, i32_w]
                rfl
              refine pure_ (i := 9) (N := (some 68)) (v := ?_) (a' := ?_) #[true, true, true, true, true, true, true, true, true, true, false, false, false, false, false, false, false, false, false] rfl rfl (any_of HT_.out (by kernel_rfl)) (fun _ _ _ h => h) (Or.inl ⟨by rfl, ?_⟩) ?_ ?_
              rotate_left
              · intro w'
                go_simp
                with_reducible rfl
              rotate_left
              · simp only [Act.put, List.setIfInBounds_toArray, List.set_cons_zero, List.set_cons_succ, i64_w, i32_w]
                rfl
              refine pure_ (i := 10) (N := (some 69)) (v := ?_) (a' := ?_) #[true, true, true, true, true, true, true, true, true, true, true, false, false, false, false, false, false, false, false] rfl rfl (any_of HT_.out (by kernel_rfl)) (fun _ _ _ h => h) (Or.inl ⟨by rfl, ?_⟩) ?_ ?_
              rotate_left
              · intro w'
                go_simp
                with_reducible rfl
              rotate_left
              · simp only [Act.put, List.setIfInBounds_toArray, List.set_cons_zero, List.set_cons_succ, i64_w, i32_w]
                rfl
              refine pure_ (i := 11) (N := (some 70)) (v := ?_) (a' := ?_) #[true, true, true, true, true, true, true, true, true, true, true, true, false, false, false, false, false, false, false] rfl rfl (any_of HT_.out (by kernel_rfl)) (fun _ _ _ h => h) (Or.inl ⟨by rfl, ?_⟩) ?_ ?_
              rotate_left
              · intro w'
                go_simp
                with_reducible rfl
              rotate_left
              · simp only [Act.put, List.setIfInBounds_toArray, List.set_cons_zero, List.set_cons_succ, i64_w, i32_w]
                rfl
              refine pure_ (i := 12) (N := (some 71)) (v := ?_) (a' := ?_) #[true, true, true, true, true, true, true, true, true, true, true, true, true, false, false, false, false, false, false] rfl rfl (any_of HT_.out (by kernel_rfl)) (fun _ _ _ h => h) (Or.inl ⟨by rfl, ?_⟩) ?_ ?_
              rotate_left
              · intro w'
                go_simp
                with_reducible rfl
              rotate_left
              · simp only [Act.put, List.setIfInBounds_toArray, List.set_cons_zero, List.set_cons_succ, i64_w, i32_w]
                rfl
              refine pure_ (i := 13) (N := (some 72)) (v := ?_) (a' := ?_) #[true, true, true, true, true, true, true, true, true, true, true, true, true, true, false, false, false, false, false] rfl rfl (any_of HT_.out (by kernel_rfl)) (fun _ _ _ h => h) (Or.inl ⟨by rfl, ?_⟩) ?_ ?_
              rotate_left
              · intro w'
                go_simp
                with_reducible rfl
              rotate_left
              · simp only [Act.put, List.setIfInBounds_toArray, List.set_cons_zero, List.set_cons_succ, i64_w, i32_w]
                rfl
              refine pure_ (i := 14) (N := (some 73)) (v := ?_) (a' := ?_) #[true, true, true, true, true, true, true, true, true, true, true, true, true, true, true, false, false, false, false] rfl rfl (any_of HT_.out (by kernel_rfl)) (fun _ _ _ h => h) (Or.inl ⟨by rfl, ?_⟩) ?_ ?_
              rotate_left
              · intro w'
                go_simp
                with_reducible rfl
              rotate_left
              · simp only [Act.put, List.setIfInBounds_toArray, List.set_cons_zero, List.set_cons_succ, i64_w, i32_w]
                rfl
              refine pure_ (i := 15) (N := (some 74)) (v := ?_) (a' := ?_) #[true, true, true, true, true, true, true, true, true, true, true, true, true, true, true, true, false, false, false] rfl rfl (any_of HT_.out (by kernel_rfl)) (fun _ _ _ h => h) (Or.inl ⟨by rfl, ?_⟩) ?_ ?_
              rotate_left
              · intro w'
                go_simp
                with_reducible rfl
              rotate_left
              · simp only [Act.put, List.setIfInBounds_toArray, List.set_cons_zero, List.set_cons_succ, i64_w, i32_w]
                rfl
              refine pure_ (i := 16) (N := (some 75)) (v := ?_) (a' := ?_) #[true, true, true, true, true, true, true, true, true, true, true, true, true, true, true, true, true, false, false] rfl rfl (any_of HT_.out (by kernel_rfl)) (fun _ _ _ h => h) (Or.inl ⟨by rfl, ?_⟩) ?_ ?_
              rotate_left
              · intro w'
                go_simp
                with_reducible rfl
              rotate_left
              · simp only [Act.put, List.setIfInBounds_toArray, List.set_cons_zero, List.set_cons_succ, i64_w, i32_w]
                rfl
              refine pure_ (i := 17) (N := (some 76)) (v := ?_) (a' := ?_) #[true, true, true, true, true, true, true, true, true, true, true, true, true, true, true, true, true, true, false] rfl rfl (any_of HT_.out (by kernel_rfl)) (fun _ _ _ h => h) (Or.inl ⟨by rfl, ?_⟩) ?_ ?_
              rotate_left
              · intro w'
                go_simp
                with_reducible rfl
              rotate_left
              · simp only [Act.put, List.setIfInBounds_toArray, List.set_cons_zero, List.set_cons_succ, i64_w, i32_w]
                rfl
              refine pure_ (i := 18) (N := (some 6)) (v := ?_) (a' := ?_) #[true, true, true, true, true, true, true, true, true, true, true, true, true, true, true, true, true, true, true] rfl rfl (any_of HT_.out (by kernel_rfl)) (fun _ _ _ h => h) (Or.inl ⟨by rfl, ?_⟩) ?_ ?_
              rotate_left
              · intro w'
                go_simp
                with_reducible rfl
              rotate_left
              · simp only [Act.put, List.setIfInBounds_toArray, List.set_cons_zero, List.set_cons_succ, i64_w, i32_w]
                rfl
              refine done_ (done_of HT_.out (by kernel_rfl)) ?_
              go_wp2
              go_roundg f
              case measure => omega
              case rel => exact ⟨j + 1, ((o ++ ⟨#[92]⟩) ++ hx1) ++ hx2, by go_num, rfl, ⟨by omega⟩, ⟨by rw [HX.out, HS.out, HO.out]⟩, ⟨S'.out.drew⟩⟩
            · have b1 : decide (((s[j]'hlt).toNat : Int) < 32) = false := by simp; omega
              have b2 : decide (((s[j]'hlt).toNat : Int) > 126) = true := by simp; omega
              go_upto_region 15 with fail
              refine start_ (n := 19) (S := fun w' => True) (ds := []) #[false, false, false, false, false, false, false, false, false, false, false, false, false, false, false, false, false, false, false] (by kernel_rfl) rfl rfl trivial (fun hHeld => ?_); refine with_tabW refText.tab15 refText.bits15 (fun HT_ HW_ => ?_)
              refine pure_ (i := 0) (N := (some 59)) (v := ?_) (a' := ?_) #[true, false, false, false, false, false, false, false, false, false, false, false, false, false, false, false, false, false, false] rfl rfl (any_of HT_.out (by kernel_rfl)) (fun _ _ _ h => h) (Or.inl ⟨by rfl, ?_⟩) ?_ ?_
              rotate_left
              · intro w'
                go_simp
                with_reducible rfl
              rotate_left
              · simp only [Act.put, List.setIfInBounds_toArray, List.set_cons_zero, List.set_cons_succ, i64_w, i32_w]
                rfl
              refine pure_ (i := 1) (N := (some 60)) (v := ?_) (a' := ?_) #[true, true, false, false, false, false, false, false, false, false, false, false, false, false, false, false, false, false, false] rfl rfl (any_of HT_.out (by kernel_rfl)) (fun _ _ _ h => h) (Or.inl ⟨by rfl, ?_⟩) ?_ ?_
              rotate_left
              · intro w'
                go_simp
                with_reducible rfl
              rotate_left
              · simp only [Act.put, List.setIfInBounds_toArray, List.set_cons_zero, List.set_cons_succ, i64_w, i32_w]
                rfl
              refine pure_ (i := 2) (N := (some 61)) (v := ?_) (a' := ?_) #[true, true, true, false, false, false, false, false, false, false, false, false, false, false, false, false, false, false, false] rfl rfl (any_of HT_.out (by kernel_rfl)) (fun _ _ _ h => h) (Or.inl ⟨by rfl, ?_⟩) ?_ ?_
              rotate_left
              · intro w'
                go_simp
                with_reducible rfl
              rotate_left
              · simp only [Act.put, List.setIfInBounds_toArray, List.set_cons_zero, List.set_cons_succ, i64_w, i32_w]
                rfl
              refine pure_ (i := 3) (N := (some 62)) (v := ?_) (a' := ?_) #[true, true, true, true, false, false, false, false, false, false, false, false, false, false, false, false, false, false, false] rfl rfl (any_of HT_.out (by kernel_rfl)) (fun _ _ _ h => h) (Or.inl ⟨by rfl, ?_⟩) ?_ ?_
              rotate_left
              · intro w'
                go_simp
                with_reducible rfl
              rotate_left
              · simp only [Act.put, List.setIfInBounds_toArray, List.set_cons_zero, List.set_cons_succ, i64_w, i32_w]
                rfl
              refine pure_ (i := 4) (N := (some 63)) (v := ?_) (a' := ?_) #[true, true, true, true, true, false, false, false, false, false, false, false, false, false, false, false, false, false, false] rfl rfl (any_of HT_.out (by kernel_rfl)) (fun _ _ _ h => h) (Or.inl ⟨by rfl, ?_⟩) ?_ ?_
              rotate_left
              · intro w'
                go_simp
                with_reducible rfl
              rotate_left
              · simp only [Act.put, List.setIfInBounds_toArray, List.set_cons_zero, List.set_cons_succ, i64_w, i32_w]
                rfl
              refine pure_ (i := 5) (N := (some 64)) (v := ?_) (a' := ?_) #[true, true, true, true, true, true, false, false, false, false, false, false, false, false, false, false, false, false, false] rfl rfl (any_of HT_.out (by kernel_rfl)) (fun _ _ _ h => h) (Or.inl ⟨by rfl, ?_⟩) ?_ ?_
              rotate_left
              · intro w'
                go_simp
                with_reducible rfl
              rotate_left
              · simp only [Act.put, List.setIfInBounds_toArray, List.set_cons_zero, List.set_cons_succ, i64_w, i32_w]
                rfl
              refine pure_ (i := 6) (N := (some 65)) (v := ?_) (a' := ?_) #[true, true, true, true, true, true, true, false, false, false, false, false, false, false, false, false, false, false, false] rfl rfl (any_of HT_.out (by kernel_rfl)) (fun _ _ _ h => h) (Or.inl ⟨by rfl, ?_⟩) ?_ ?_
              rotate_left
              · intro w'
                go_simp
                with_reducible rfl
              rotate_left
              · simp only [Act.put, List.setIfInBounds_toArray, List.set_cons_zero, List.set_cons_succ, i64_w, i32_w]
                rfl
              refine pure_ (i := 7) (N := (some 66)) (v := ?_) (a' := ?_) #[true, true, true, true, true, true, true, true, false, false, false, false, false, false, false, false, false, false, false] rfl rfl (any_of HT_.out (by kernel_rfl)) (fun _ _ _ h => h) (Or.inl ⟨by rfl, ?_⟩) ?_ ?_
              rotate_left
              · intro w'
                go_simp
                with_reducible rfl
              rotate_left
              · simp only [Act.put, List.setIfInBounds_toArray, List.set_cons_zero, List.set_cons_succ, i64_w, i32_w]
                rfl
              refine pure_ (i := 8) (N := (some 67)) (v := ?_) (a' := ?_) #[true, true, true, true, true, true, true, true, true, false, false, false, false, false, false, false, false, false, false] rfl rfl (any_of HT_.out (by kernel_rfl)) (fun _ _ _ h => h) (Or.inl ⟨by rfl, ?_⟩) ?_ ?_
              rotate_left
              · intro w'
                go_simp
                with_reducible rfl
              rotate_left
              · simp only [Act.put, List.setIfInBounds_toArray, List.set_cons_zero, List.set_cons_succ, i64_w, i32_w]
                rfl
              refine pure_ (i := 9) (N := (some 68)) (v := ?_) (a' := ?_) #[true, true, true, true, true, true, true, true, true, true, false, false, false, false, false, false, false, false, false] rfl rfl (any_of HT_.out (by kernel_rfl)) (fun _ _ _ h => h) (Or.inl ⟨by rfl, ?_⟩) ?_ ?_
              rotate_left
              · intro w'
                go_simp
                with_reducible rfl
              rotate_left
              · simp only [Act.put, List.setIfInBounds_toArray, List.set_cons_zero, List.set_cons_succ, i64_w, i32_w]
                rfl
              refine pure_ (i := 10) (N := (some 69)) (v := ?_) (a' := ?_) #[true, true, true, true, true, true, true, true, true, true, true, false, false, false, false, false, false, false, false] rfl rfl (any_of HT_.out (by kernel_rfl)) (fun _ _ _ h => h) (Or.inl ⟨by rfl, ?_⟩) ?_ ?_
              rotate_left
              · intro w'
                go_simp
                with_reducible rfl
              rotate_left
              · simp only [Act.put, List.setIfInBounds_toArray, List.set_cons_zero, List.set_cons_succ, i64_w, i32_w]
                rfl
              refine pure_ (i := 11) (N := (some 70)) (v := ?_) (a' := ?_) #[true, true, true, true, true, true, true, true, true, true, true, true, false, false, false, false, false, false, false] rfl rfl (any_of HT_.out (by kernel_rfl)) (fun _ _ _ h => h) (Or.inl ⟨by rfl, ?_⟩) ?_ ?_
              rotate_left
              · intro w'
                go_simp
                with_reducible rfl
              rotate_left
              · simp only [Act.put, List.setIfInBounds_toArray, List.set_cons_zero, List.set_cons_succ, i64_w, i32_w]
                rfl
              refine pure_ (i := 12) (N := (some 71)) (v := ?_) (a' := ?_) #[true, true, true, true, true, true, true, true, true, true, true, true, true, false, false, false, false, false, false] rfl rfl (any_of HT_.out (by kernel_rfl)) (fun _ _ _ h => h) (Or.inl ⟨by rfl, ?_⟩) ?_ ?_
              rotate_left
              · intro w'
                go_simp
                with_reducible rfl
              rotate_left
              · simp only [Act.put, List.setIfInBounds_toArray, List.set_cons_zero, List.set_cons_succ, i64_w, i32_w]
                rfl
              refine pure_ (i := 13) (N := (some 72)) (v := ?_) (a' := ?_) #[true, true, true, true, true, true, true, true, true, true, true, true, true, true, false, false, false, false, false] rfl rfl (any_of HT_.out (by kernel_rfl)) (fun _ _ _ h => h) (Or.inl ⟨by rfl, ?_⟩) ?_ ?_
              rotate_left
              · intro w'
                go_simp
                with_reducible rfl
              rotate_left
              · simp only [Act.put, List.setIfInBounds_toArray, List.set_cons_zero, List.set_cons_succ, i64_w, i32_w]
                rfl
              refine pure_ (i := 14) (N := (some 73)) (v := ?_) (a' := ?_) #[true, true, true, true, true, true, true, true, true, true, true, true, true, true, true, false, false, false, false] rfl rfl (any_of HT_.out (by kernel_rfl)) (fun _ _ _ h => h) (Or.inl ⟨by rfl, ?_⟩) ?_ ?_
              rotate_left
              · intro w'
                go_simp
                with_reducible rfl
              rotate_left
              · simp only [Act.put, List.setIfInBounds_toArray, List.set_cons_zero, List.set_cons_succ, i64_w, i32_w]
                rfl
              refine pure_ (i := 15) (N := (some 74)) (v := ?_) (a' := ?_) #[true, true, true, true, true, true, true, true, true, true, true, true, true, true, true, true, false, false, false] rfl rfl (any_of HT_.out (by kernel_rfl)) (fun _ _ _ h => h) (Or.inl ⟨by rfl, ?_⟩) ?_ ?_
              rotate_left
              · intro w'
                go_simp
                with_reducible rfl
              rotate_left
              · simp only [Act.put, List.setIfInBounds_toArray, List.set_cons_zero, List.set_cons_succ, i64_w, i32_w]
                rfl
              refine pure_ (i := 16) (N := (some 75)) (v := ?_) (a' := ?_) #[true, true, true, true, true, true, true, true, true, true, true, true, true, true, true, true, true, false, false] rfl rfl (any_of HT_.out (by kernel_rfl)) (fun _ _ _ h => h) (Or.inl ⟨by rfl, ?_⟩) ?_ ?_
              rotate_left
              · intro w'
                go_simp
                with_reducible rfl
              rotate_left
              · simp only [Act.put, List.setIfInBounds_toArray, List.set_cons_zero, List.set_cons_succ, i64_w, i32_w]
                rfl
              refine pure_ (i := 17) (N := (some 76)) (v := ?_) (a' := ?_) #[true, true, true, true, true, true, true, true, true, true, true, true, true, true, true, true, true, true, false] rfl rfl (any_of HT_.out (by kernel_rfl)) (fun _ _ _ h => h) (Or.inl ⟨by rfl, ?_⟩) ?_ ?_
              rotate_left
              · intro w'
                go_simp
                with_reducible rfl
              rotate_left
              · simp only [Act.put, List.setIfInBounds_toArray, List.set_cons_zero, List.set_cons_succ, i64_w, i32_w]
                rfl
              refine pure_ (i := 18) (N := (some 6)) (v := ?_) (a' := ?_) #[true, true, true, true, true, true, true, true, true, true, true, true, true, true, true, true, true, true, true] rfl rfl (any_of HT_.out (by kernel_rfl)) (fun _ _ _ h => h) (Or.inl ⟨by rfl, ?_⟩) ?_ ?_
              rotate_left
              · intro w'
                go_simp
                with_reducible rfl
              rotate_left
              · simp only [Act.put, List.setIfInBounds_toArray, List.set_cons_zero, List.set_cons_succ, i64_w, i32_w]
                rfl
              refine done_ (done_of HT_.out (by kernel_rfl)) ?_
              go_wp2
              go_roundg f
              case measure => omega
              case rel => exact ⟨j + 1, ((o ++ ⟨#[92]⟩) ++ hx1) ++ hx2, by go_num, rfl, ⟨by omega⟩, ⟨by rw [HX.out, HS.out, HO.out]⟩, ⟨S'.out.drew⟩⟩
            · have b1 : decide (((s[j]'hlt).toNat : Int) < 32) = false := by simp; omega
              have b2 : decide (((s[j]'hlt).toNat : Int) > 126) = false := by simp; omega
              have b3 : (((s[j]'hlt).toNat : Int) == 34) = true := by simp; omega
              clear h3
              go_upto_region 15 with fail
              refine start_ (n := 19) (S := fun w' => True) (ds := []) #[false, false, false, false, false, false, false, false, false, false, false, false, false, false, false, false, false, false, false] (by kernel_rfl) rfl rfl trivial (fun hHeld => ?_); refine with_tabW refText.tab15 refText.bits15 (fun HT_ HW_ => ?_)
              refine pure_ (i := 0) (N := (some 59)) (v := ?_) (a' := ?_) #[true, false, false, false, false, false, false, false, false, false, false, false, false, false, false, false, false, false, false] rfl rfl (any_of HT_.out (by kernel_rfl)) (fun _ _ _ h => h) (Or.inl ⟨by rfl, ?_⟩) ?_ ?_
              rotate_left
              · intro w'
                go_simp
                with_reducible rfl
              rotate_left
              · simp only [Act.put, List.setIfInBounds_toArray, List.set_cons_zero, List.set_cons_succ, i64_w, i32_w]
                rfl
              refine pure_ (i := 1) (N := (some 60)) (v := ?_) (a' := ?_) #[true, true, false, false, false, false, false, false, false, false, false, false, false, false, false, false, false, false, false] rfl rfl (any_of HT_.out (by kernel_rfl)) (fun _ _ _ h => h) (Or.inl ⟨by rfl, ?_⟩) ?_ ?_
              rotate_left
              · intro w'
                go_simp
                with_reducible rfl
              rotate_left
              · simp only [Act.put, List.setIfInBounds_toArray, List.set_cons_zero, List.set_cons_succ, i64_w, i32_w]
                rfl
              refine pure_ (i := 2) (N := (some 61)) (v := ?_) (a' := ?_) #[true, true, true, false, false, false, false, false, false, false, false, false, false, false, false, false, false, false, false] rfl rfl (any_of HT_.out (by kernel_rfl)) (fun _ _ _ h => h) (Or.inl ⟨by rfl, ?_⟩) ?_ ?_
              rotate_left
              · intro w'
                go_simp
                with_reducible rfl
              rotate_left
              · simp only [Act.put, List.setIfInBounds_toArray, List.set_cons_zero, List.set_cons_succ, i64_w, i32_w]
                rfl
              refine pure_ (i := 3) (N := (some 62)) (v := ?_) (a' := ?_) #[true, true, true, true, false, false, false, false, false, false, false, false, false, false, false, false, false, false, false] rfl rfl (any_of HT_.out (by kernel_rfl)) (fun _ _ _ h => h) (Or.inl ⟨by rfl, ?_⟩) ?_ ?_
              rotate_left
              · intro w'
                go_simp
                with_reducible rfl
              rotate_left
              · simp only [Act.put, List.setIfInBounds_toArray, List.set_cons_zero, List.set_cons_succ, i64_w, i32_w]
                rfl
              refine pure_ (i := 4) (N := (some 63)) (v := ?_) (a' := ?_) #[true, true, true, true, true, false, false, false, false, false, false, false, false, false, false, false, false, false, false] rfl rfl (any_of HT_.out (by kernel_rfl)) (fun _ _ _ h => h) (Or.inl ⟨by rfl, ?_⟩) ?_ ?_
              rotate_left
              · intro w'
                go_simp
                with_reducible rfl
              rotate_left
              · simp only [Act.put, List.setIfInBounds_toArray, List.set_cons_zero, List.set_cons_succ, i64_w, i32_w]
                rfl
              refine pure_ (i := 5) (N := (some 64)) (v := ?_) (a' := ?_) #[true, true, true, true, true, true, false, false, false, false, false, false, false, false, false, false, false, false, false] rfl rfl (any_of HT_.out (by kernel_rfl)) (fun _ _ _ h => h) (Or.inl ⟨by rfl, ?_⟩) ?_ ?_
              rotate_left
              · intro w'
                go_simp
                with_reducible rfl
              rotate_left
              · simp only [Act.put, List.setIfInBounds_toArray, List.set_cons_zero, List.set_cons_succ, i64_w, i32_w]
                rfl
              refine pure_ (i := 6) (N := (some 65)) (v := ?_) (a' := ?_) #[true, true, true, true, true, true, true, false, false, false, false, false, false, false, false, false, false, false, false] rfl rfl (any_of HT_.out (by kernel_rfl)) (fun _ _ _ h => h) (Or.inl ⟨by rfl, ?_⟩) ?_ ?_
              rotate_left
              · intro w'
                go_simp
                with_reducible rfl
              rotate_left
              · simp only [Act.put, List.setIfInBounds_toArray, List.set_cons_zero, List.set_cons_succ, i64_w, i32_w]
                rfl
              refine pure_ (i := 7) (N := (some 66)) (v := ?_) (a' := ?_) #[true, true, true, true, true, true, true, true, false, false, false, false, false, false, false, false, false, false, false] rfl rfl (any_of HT_.out (by kernel_rfl)) (fun _ _ _ h => h) (Or.inl ⟨by rfl, ?_⟩) ?_ ?_
              rotate_left
              · intro w'
                go_simp
                with_reducible rfl
              rotate_left
              · simp only [Act.put, List.setIfInBounds_toArray, List.set_cons_zero, List.set_cons_succ, i64_w, i32_w]
                rfl
              refine pure_ (i := 8) (N := (some 67)) (v := ?_) (a' := ?_) #[true, true, true, true, true, true, true, true, true, false, false, false, false, false, false, false, false, false, false] rfl rfl (any_of HT_.out (by kernel_rfl)) (fun _ _ _ h => h) (Or.inl ⟨by rfl, ?_⟩) ?_ ?_
              rotate_left
              · intro w'
                go_simp
                with_reducible rfl
              rotate_left
              · simp only [Act.put, List.setIfInBounds_toArray, List.set_cons_zero, List.set_cons_succ, i64_w, i32_w]
                rfl
              refine pure_ (i := 9) (N := (some 68)) (v := ?_) (a' := ?_) #[true, true, true, true, true, true, true, true, true, true, false, false, false, false, false, false, false, false, false] rfl rfl (any_of HT_.out (by kernel_rfl)) (fun _ _ _ h => h) (Or.inl ⟨by rfl, ?_⟩) ?_ ?_
              rotate_left
              · intro w'
                go_simp
                with_reducible rfl
              rotate_left
              · simp only [Act.put, List.setIfInBounds_toArray, List.set_cons_zero, List.set_cons_succ, i64_w, i32_w]
                rfl
              refine pure_ (i := 10) (N := (some 69)) (v := ?_) (a' := ?_) #[true, true, true, true, true, true, true, true, true, true, true, false, false, false, false, false, false, false, false] rfl rfl (any_of HT_.out (by kernel_rfl)) (fun _ _ _ h => h) (Or.inl ⟨by rfl, ?_⟩) ?_ ?_
              rotate_left
              · intro w'
                go_simp
                with_reducible rfl
              rotate_left
              · simp only [Act.put, List.setIfInBounds_toArray, List.set_cons_zero, List.set_cons_succ, i64_w, i32_w]
                rfl
              refine pure_ (i := 11) (N := (some 70)) (v := ?_) (a' := ?_) #[true, true, true, true, true, true, true, true, true, true, true, true, false, false, false, false, false, false, false] rfl rfl (any_of HT_.out (by kernel_rfl)) (fun _ _ _ h => h) (Or.inl ⟨by rfl, ?_⟩) ?_ ?_
              rotate_left
              · intro w'
                go_simp
                with_reducible rfl
              rotate_left
              · simp only [Act.put, List.setIfInBounds_toArray, List.set_cons_zero, List.set_cons_succ, i64_w, i32_w]
                rfl
              refine pure_ (i := 12) (N := (some 71)) (v := ?_) (a' := ?_) #[true, true, true, true, true, true, true, true, true, true, true, true, true, false, false, false, false, false, false] rfl rfl (any_of HT_.out (by kernel_rfl)) (fun _ _ _ h => h) (Or.inl ⟨by rfl, ?_⟩) ?_ ?_
              rotate_left
              · intro w'
                go_simp
                with_reducible rfl
              rotate_left
              · simp only [Act.put, List.setIfInBounds_toArray, List.set_cons_zero, List.set_cons_succ, i64_w, i32_w]
                rfl
              refine pure_ (i := 13) (N := (some 72)) (v := ?_) (a' := ?_) #[true, true, true, true, true, true, true, true, true, true, true, true, true, true, false, false, false, false, false] rfl rfl (any_of HT_.out (by kernel_rfl)) (fun _ _ _ h => h) (Or.inl ⟨by rfl, ?_⟩) ?_ ?_
              rotate_left
              · intro w'
                go_simp
                with_reducible rfl
              rotate_left
              · simp only [Act.put, List.setIfInBounds_toArray, List.set_cons_zero, List.set_cons_succ, i64_w, i32_w]
                rfl
              refine pure_ (i := 14) (N := (some 73)) (v := ?_) (a' := ?_) #[true, true, true, true, true, true, true, true, true, true, true, true, true, true, true, false, false, false, false] rfl rfl (any_of HT_.out (by kernel_rfl)) (fun _ _ _ h => h) (Or.inl ⟨by rfl, ?_⟩) ?_ ?_
              rotate_left
              · intro w'
                go_simp
                with_reducible rfl
              rotate_left
              · simp only [Act.put, List.setIfInBounds_toArray, List.set_cons_zero, List.set_cons_succ, i64_w, i32_w]
                rfl
              refine pure_ (i := 15) (N := (some 74)) (v := ?_) (a' := ?_) #[true, true, true, true, true, true, true, true, true, true, true, true, true, true, true, true, false, false, false] rfl rfl (any_of HT_.out (by kernel_rfl)) (fun _ _ _ h => h) (Or.inl ⟨by rfl, ?_⟩) ?_ ?_
              rotate_left
              · intro w'
                go_simp
                with_reducible rfl
              rotate_left
              · simp only [Act.put, List.setIfInBounds_toArray, List.set_cons_zero, List.set_cons_succ, i64_w, i32_w]
                rfl
              refine pure_ (i := 16) (N := (some 75)) (v := ?_) (a' := ?_) #[true, true, true, true, true, true, true, true, true, true, true, true, true, true, true, true, true, false, false] rfl rfl (any_of HT_.out (by kernel_rfl)) (fun _ _ _ h => h) (Or.inl ⟨by rfl, ?_⟩) ?_ ?_
              rotate_left
              · intro w'
                go_simp
                with_reducible rfl
              rotate_left
              · simp only [Act.put, List.setIfInBounds_toArray, List.set_cons_zero, List.set_cons_succ, i64_w, i32_w]
                rfl
              refine pure_ (i := 17) (N := (some 76)) (v := ?_) (a' := ?_) #[true, true, true, true, true, true, true, true, true, true, true, true, true, true, true, true, true, true, false] rfl rfl (any_of HT_.out (by kernel_rfl)) (fun _ _ _ h => h) (Or.inl ⟨by rfl, ?_⟩) ?_ ?_
              rotate_left
              · intro w'
                go_simp
                with_reducible rfl
              rotate_left
              · simp only [Act.put, List.setIfInBounds_toArray, List.set_cons_zero, List.set_cons_succ, i64_w, i32_w]
                rfl
              refine pure_ (i := 18) (N := (some 6)) (v := ?_) (a' := ?_) #[true, true, true, true, true, true, true, true, true, true, true, true, true, true, true, true, true, true, true] rfl rfl (any_of HT_.out (by kernel_rfl)) (fun _ _ _ h => h) (Or.inl ⟨by rfl, ?_⟩) ?_ ?_
              rotate_left
              · intro w'
                go_simp
                with_reducible rfl
              rotate_left
              · simp only [Act.put, List.setIfInBounds_toArray, List.set_cons_zero, List.set_cons_succ, i64_w, i32_w]
                rfl
              refine done_ (done_of HT_.out (by kernel_rfl)) ?_
              go_wp2
              go_roundg f
              case measure => omega
              case rel => exact ⟨j + 1, ((o ++ ⟨#[92]⟩) ++ hx1) ++ hx2, by go_num, rfl, ⟨by omega⟩, ⟨by rw [HX.out, HS.out, HO.out]⟩, ⟨S'.out.drew⟩⟩
            · have b1 : decide (((s[j]'hlt).toNat : Int) < 32) = false := by simp; omega
              have b2 : decide (((s[j]'hlt).toNat : Int) > 126) = false := by simp; omega
              have b3 : (((s[j]'hlt).toNat : Int) == 34) = false := by simp; omega
              have b4 : (((s[j]'hlt).toNat : Int) == 92) = true := by simp; omega
              clear h4
              go_upto_region 15 with fail
              refine start_ (n := 19) (S := fun w' => True) (ds := []) #[false, false, false, false, false, false, false, false, false, false, false, false, false, false, false, false, false, false, false] (by kernel_rfl) rfl rfl trivial (fun hHeld => ?_); refine with_tabW refText.tab15 refText.bits15 (fun HT_ HW_ => ?_)
              refine pure_ (i := 0) (N := (some 59)) (v := ?_) (a' := ?_) #[true, false, false, false, false, false, false, false, false, false, false, false, false, false, false, false, false, false, false] rfl rfl (any_of HT_.out (by kernel_rfl)) (fun _ _ _ h => h) (Or.inl ⟨by rfl, ?_⟩) ?_ ?_
              rotate_left
              · intro w'
                go_simp
                with_reducible rfl
              rotate_left
              · simp only [Act.put, List.setIfInBounds_toArray, List.set_cons_zero, List.set_cons_succ, i64_w, i32_w]
                rfl
              refine pure_ (i := 1) (N := (some 60)) (v := ?_) (a' := ?_) #[true, true, false, false, false, false, false, false, false, false, false, false, false, false, false, false, false, false, false] rfl rfl (any_of HT_.out (by kernel_rfl)) (fun _ _ _ h => h) (Or.inl ⟨by rfl, ?_⟩) ?_ ?_
              rotate_left
              · intro w'
                go_simp
                with_reducible rfl
              rotate_left
              · simp only [Act.put, List.setIfInBounds_toArray, List.set_cons_zero, List.set_cons_succ, i64_w, i32_w]
                rfl
              refine pure_ (i := 2) (N := (some 61)) (v := ?_) (a' := ?_) #[true, true, true, false, false, false, false, false, false, false, false, false, false, false, false, false, false, false, false] rfl rfl (any_of HT_.out (by kernel_rfl)) (fun _ _ _ h => h) (Or.inl ⟨by rfl, ?_⟩) ?_ ?_
              rotate_left
              · intro w'
                go_simp
                with_reducible rfl
              rotate_left
              · simp only [Act.put, List.setIfInBounds_toArray, List.set_cons_zero, List.set_cons_succ, i64_w, i32_w]
                rfl
              refine pure_ (i := 3) (N := (some 62)) (v := ?_) (a' := ?_) #[true, true, true, true, false, false, false, false, false, false, false, false, false, false, false, false, false, false, false] rfl rfl (any_of HT_.out (by kernel_rfl)) (fun _ _ _ h => h) (Or.inl ⟨by rfl, ?_⟩) ?_ ?_
              rotate_left
              · intro w'
                go_simp
                with_reducible rfl
              rotate_left
              · simp only [Act.put, List.setIfInBounds_toArray, List.set_cons_zero, List.set_cons_succ, i64_w, i32_w]
                rfl
              refine pure_ (i := 4) (N := (some 63)) (v := ?_) (a' := ?_) #[true, true, true, true, true, false, false, false, false, false, false, false, false, false, false, false, false, false, false] rfl rfl (any_of HT_.out (by kernel_rfl)) (fun _ _ _ h => h) (Or.inl ⟨by rfl, ?_⟩) ?_ ?_
              rotate_left
              · intro w'
                go_simp
                with_reducible rfl
              rotate_left
              · simp only [Act.put, List.setIfInBounds_toArray, List.set_cons_zero, List.set_cons_succ, i64_w, i32_w]
                rfl
              refine pure_ (i := 5) (N := (some 64)) (v := ?_) (a' := ?_) #[true, true, true, true, true, true, false, false, false, false, false, false, false, false, false, false, false, false, false] rfl rfl (any_of HT_.out (by kernel_rfl)) (fun _ _ _ h => h) (Or.inl ⟨by rfl, ?_⟩) ?_ ?_
              rotate_left
              · intro w'
                go_simp
                with_reducible rfl
              rotate_left
              · simp only [Act.put, List.setIfInBounds_toArray, List.set_cons_zero, List.set_cons_succ, i64_w, i32_w]
                rfl
              refine pure_ (i := 6) (N := (some 65)) (v := ?_) (a' := ?_) #[true, true, true, true, true, true, true, false, false, false, false, false, false, false, false, false, false, false, false] rfl rfl (any_of HT_.out (by kernel_rfl)) (fun _ _ _ h => h) (Or.inl ⟨by rfl, ?_⟩) ?_ ?_
              rotate_left
              · intro w'
                go_simp
                with_reducible rfl
              rotate_left
              · simp only [Act.put, List.setIfInBounds_toArray, List.set_cons_zero, List.set_cons_succ, i64_w, i32_w]
                rfl
              refine pure_ (i := 7) (N := (some 66)) (v := ?_) (a' := ?_) #[true, true, true, true, true, true, true, true, false, false, false, false, false, false, false, false, false, false, false] rfl rfl (any_of HT_.out (by kernel_rfl)) (fun _ _ _ h => h) (Or.inl ⟨by rfl, ?_⟩) ?_ ?_
              rotate_left
              · intro w'
                go_simp
                with_reducible rfl
              rotate_left
              · simp only [Act.put, List.setIfInBounds_toArray, List.set_cons_zero, List.set_cons_succ, i64_w, i32_w]
                rfl
              refine pure_ (i := 8) (N := (some 67)) (v := ?_) (a' := ?_) #[true, true, true, true, true, true, true, true, true, false, false, false, false, false, false, false, false, false, false] rfl rfl (any_of HT_.out (by kernel_rfl)) (fun _ _ _ h => h) (Or.inl ⟨by rfl, ?_⟩) ?_ ?_
              rotate_left
              · intro w'
                go_simp
                with_reducible rfl
              rotate_left
              · simp only [Act.put, List.setIfInBounds_toArray, List.set_cons_zero, List.set_cons_succ, i64_w, i32_w]
                rfl
              refine pure_ (i := 9) (N := (some 68)) (v := ?_) (a' := ?_) #[true, true, true, true, true, true, true, true, true, true, false, false, false, false, false, false, false, false, false] rfl rfl (any_of HT_.out (by kernel_rfl)) (fun _ _ _ h => h) (Or.inl ⟨by rfl, ?_⟩) ?_ ?_
              rotate_left
              · intro w'
                go_simp
                with_reducible rfl
              rotate_left
              · simp only [Act.put, List.setIfInBounds_toArray, List.set_cons_zero, List.set_cons_succ, i64_w, i32_w]
                rfl
              refine pure_ (i := 10) (N := (some 69)) (v := ?_) (a' := ?_) #[true, true, true, true, true, true, true, true, true, true, true, false, false, false, false, false, false, false, false] rfl rfl (any_of HT_.out (by kernel_rfl)) (fun _ _ _ h => h) (Or.inl ⟨by rfl, ?_⟩) ?_ ?_
              rotate_left
              · intro w'
                go_simp
                with_reducible rfl
              rotate_left
              · simp only [Act.put, List.setIfInBounds_toArray, List.set_cons_zero, List.set_cons_succ, i64_w, i32_w]
                rfl
              refine pure_ (i := 11) (N := (some 70)) (v := ?_) (a' := ?_) #[true, true, true, true, true, true, true, true, true, true, true, true, false, false, false, false, false, false, false] rfl rfl (any_of HT_.out (by kernel_rfl)) (fun _ _ _ h => h) (Or.inl ⟨by rfl, ?_⟩) ?_ ?_
              rotate_left
              · intro w'
                go_simp
                with_reducible rfl
              rotate_left
              · simp only [Act.put, List.setIfInBounds_toArray, List.set_cons_zero, List.set_cons_succ, i64_w, i32_w]
                rfl
              refine pure_ (i := 12) (N := (some 71)) (v := ?_) (a' := ?_) #[true, true, true, true, true, true, true, true, true, true, true, true, true, false, false, false, false, false, false] rfl rfl (any_of HT_.out (by kernel_rfl)) (fun _ _ _ h => h) (Or.inl ⟨by rfl, ?_⟩) ?_ ?_
              rotate_left
              · intro w'
                go_simp
                with_reducible rfl
              rotate_left
              · simp only [Act.put, List.setIfInBounds_toArray, List.set_cons_zero, List.set_cons_succ, i64_w, i32_w]
                rfl
              refine pure_ (i := 13) (N := (some 72)) (v := ?_) (a' := ?_) #[true, true, true, true, true, true, true, true, true, true, true, true, true, true, false, false, false, false, false] rfl rfl (any_of HT_.out (by kernel_rfl)) (fun _ _ _ h => h) (Or.inl ⟨by rfl, ?_⟩) ?_ ?_
              rotate_left
              · intro w'
                go_simp
                with_reducible rfl
              rotate_left
              · simp only [Act.put, List.setIfInBounds_toArray, List.set_cons_zero, List.set_cons_succ, i64_w, i32_w]
                rfl
              refine pure_ (i := 14) (N := (some 73)) (v := ?_) (a' := ?_) #[true, true, true, true, true, true, true, true, true, true, true, true, true, true, true, false, false, false, false] rfl rfl (any_of HT_.out (by kernel_rfl)) (fun _ _ _ h => h) (Or.inl ⟨by rfl, ?_⟩) ?_ ?_
              rotate_left
              · intro w'
                go_simp
                with_reducible rfl
              rotate_left
              · simp only [Act.put, List.setIfInBounds_toArray, List.set_cons_zero, List.set_cons_succ, i64_w, i32_w]
                rfl
              refine pure_ (i := 15) (N := (some 74)) (v := ?_) (a' := ?_) #[true, true, true, true, true, true, true, true, true, true, true, true, true, true, true, true, false, false, false] rfl rfl (any_of HT_.out (by kernel_rfl)) (fun _ _ _ h => h) (Or.inl ⟨by rfl, ?_⟩) ?_ ?_
              rotate_left
              · intro w'
                go_simp
                with_reducible rfl
              rotate_left
              · simp only [Act.put, List.setIfInBounds_toArray, List.set_cons_zero, List.set_cons_succ, i64_w, i32_w]
                rfl
              refine pure_ (i := 16) (N := (some 75)) (v := ?_) (a' := ?_) #[true, true, true, true, true, true, true, true, true, true, true, true, true, true, true, true, true, false, false] rfl rfl (any_of HT_.out (by kernel_rfl)) (fun _ _ _ h => h) (Or.inl ⟨by rfl, ?_⟩) ?_ ?_
              rotate_left
              · intro w'
                go_simp
                with_reducible rfl
              rotate_left
              · simp only [Act.put, List.setIfInBounds_toArray, List.set_cons_zero, List.set_cons_succ, i64_w, i32_w]
                rfl
              refine pure_ (i := 17) (N := (some 76)) (v := ?_) (a' := ?_) #[true, true, true, true, true, true, true, true, true, true, true, true, true, true, true, true, true, true, false] rfl rfl (any_of HT_.out (by kernel_rfl)) (fun _ _ _ h => h) (Or.inl ⟨by rfl, ?_⟩) ?_ ?_
              rotate_left
              · intro w'
                go_simp
                with_reducible rfl
              rotate_left
              · simp only [Act.put, List.setIfInBounds_toArray, List.set_cons_zero, List.set_cons_succ, i64_w, i32_w]
                rfl
              refine pure_ (i := 18) (N := (some 6)) (v := ?_) (a' := ?_) #[true, true, true, true, true, true, true, true, true, true, true, true, true, true, true, true, true, true, true] rfl rfl (any_of HT_.out (by kernel_rfl)) (fun _ _ _ h => h) (Or.inl ⟨by rfl, ?_⟩) ?_ ?_
              rotate_left
              · intro w'
                go_simp
                with_reducible rfl
              rotate_left
              · simp only [Act.put, List.setIfInBounds_toArray, List.set_cons_zero, List.set_cons_succ, i64_w, i32_w]
                rfl
              refine done_ (done_of HT_.out (by kernel_rfl)) ?_
              go_wp2
              go_roundg f
              case measure => omega
              case rel => exact ⟨j + 1, ((o ++ ⟨#[92]⟩) ++ hx1) ++ hx2, by go_num, rfl, ⟨by omega⟩, ⟨by rw [HX.out, HS.out, HO.out]⟩, ⟨S'.out.drew⟩⟩
          · have h1 : decide (((s[j]'hlt).toNat : Int) < 32) = false := by simp [odd] at ho; simp; omega
            have h2 : decide (((s[j]'hlt).toNat : Int) > 126) = false := by simp [odd] at ho; simp; omega
            have h3 : (((s[j]'hlt).toNat : Int) == 34) = false := by simp [odd] at ho; simp; omega
            have h4 : (((s[j]'hlt).toNat : Int) == 92) = false := by simp [odd] at ho; simp; omega
            have HQ := Aside0.mk (show qc (s[j]'hlt) = [s[j]'hlt] by unfold qc; rw [if_neg ho])
            have hex1 : (s.extract j (j + 1)).size ≤ 1 := by simp; omega
            have HEX := Aside0.mk (show (s.extract j (j + 1)).data.toList = [s[j]'hlt] from by
              rw [Lib.extract_data]
              rw [List.drop_eq_getElem_cons (i := j) (by simpa using hlt)]
              simp; rfl)
            clear ho
            have hsl : ∀ W, (Instr.slice 9 (.string s) (some (.int .i64 (j : Int))) (some (.int .i64 ((j : Int) + 1))) none).run Tryd.prog W = .ok (.string (s.extract j (j + 1))) W := fun W => by
              have := run_slice_string (P := Tryd.prog) W 9 s .i64 .i64 (j : Int) ((j : Int) + 1) Tryd.underlying9 (by omega) (by omega) (by omega)
              rw [this]
              congr 2
            go_wp2
            go_roundg f
            case measure => omega
            case rel => exact ⟨j + 1, o ++ s.extract j (j + 1), by go_num, rfl, ⟨by omega⟩, ⟨by rw [HS.out, HQ.out, ← HO.out, ← HEX.out]; simp⟩, ⟨S'.out⟩⟩
        · have HE := Aside0.mk (show s.data.toList.take j = s.data.toList from List.take_of_length_le (by simp; omega))
          have HO2 := Aside0.mk (show o ++ ⟨#[34]⟩ = r from by
            rw [← HR.out]; apply toList_inj; rw [← HE.out, ← HO.out]; simp)
          have hj2 : s.size ≤ j := by omega
          go_wp2
          go_ret
          exact ⟨by rw [HO2.out]; rfl, S'.out.b⟩
end Go.Proofs.YtohbpgdhpfmlgaaDoor.PA
namespace Go.Proofs.YtohbpgdhpfmlgaaDoor.PC
open Go.Lib Go.RowKit Go.Proofs.YtohbpgdhpfmlgaaDoor.PA Go.Proofs.YtohbpgdhpfmlgaaDoorW.PrintWords Go.Proofs.YtohbpgdhpfmlgaaDoorW.PrintLast Go.Proofs.YtohbpgdhpfmlgaaDoorW.PrintMore
set_option linter.unusedVariables false
/-- What the reference's Text tells. -/
def thresherref03_Text.f (_ : Nat) (a0 a1_0 : Int) (a1_1 : ByteArray) : Option ByteArray :=
  if -9223372036854775808 ≤ a1_0 ∧ a1_0 < 9223372036854775808 then value_Text.f 1 a0 a1_0 a1_1 else none
theorem thresherref03_Text.mono : ∀ a0 a1 a2 k, LeO (thresherref03_Text.f k a0 a1 a2) (thresherref03_Text.f (k + 1) a0 a1 a2) := fun _ _ _ _ => LeO.refl _
theorem thresherref03_Text.calls (k : Nat) (a0 a1_0 : Int) (a1_1 r : ByteArray) (w : World) (h : thresherref03_Text.f k a0 a1_0 a1_1 = some r) :
    Calls Tryd.prog 23 #[.int .i64 a0, .agg #[.int .i64 a1_0, .string a1_1]] w fun e w' => e = .returned (.string r) ∧ Below w.heap.size w w' := by
  unfold thresherref03_Text.f at h
  split at h
  · rename_i hr
    exact refText a0 a1_0 a1_1 r h hr.1 hr.2 w
  · cases h
end Go.Proofs.YtohbpgdhpfmlgaaDoor.PC
