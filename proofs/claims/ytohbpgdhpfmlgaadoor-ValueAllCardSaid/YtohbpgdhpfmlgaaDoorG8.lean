/- ValueSigns' walk. -/
import Derived.Test.YtohbpgdhpfmlgaaDoorG7
import Derived.Outline
import Derived.Deep.RegionHeld3
import Derived.Deep.DeepCutAuto
namespace Go.Proofs.YtohbpgdhpfmlgaaDoor.PA
set_option linter.unusedVariables false
set_option linter.unusedSimpArgs false
open Go.RowKit Go.Proofs.YtohbpgdhpfmlgaaDoorW.PrintWords Go.Proofs.YtohbpgdhpfmlgaaDoorW.PrintLast Go.Proofs.YtohbpgdhpfmlgaaDoorW.PrintMore
theorem less_c : ∀ a b : List UInt8, Op.bytesLess a b = decide (cB a b < 0)
  | [], [] => by simp [Op.bytesLess, cB, Lib.compareBytes]
  | [], _ :: _ => by simp [Op.bytesLess, cB, Lib.compareBytes]
  | _ :: _, [] => by simp [Op.bytesLess, cB, Lib.compareBytes]
  | a :: xs, b :: ys => by
    have ih := less_c xs ys
    simp only [Op.bytesLess, cB, Lib.compareBytes] at *
    by_cases h1 : a < b
    · simp [h1]
    · by_cases h2 : b < a
      · have h3 : a ≠ b := by rintro rfl; exact h1 h2
        simp [h1, h2, h3]
      · have h3 : a = b := by simp only [UInt8.lt_iff_toNat_lt, ← UInt8.toNat_inj] at *; omega
        subst h3
        simp [h1, ih]
theorem cB_longer : ∀ l : List UInt8, cB l (l ++ [0]) = -1
  | [] => by simp [cB, Lib.compareBytes]
  | a :: xs => by
    have ih := cB_longer xs
    simp only [cB] at *
    have h : ¬ a < a := by simp only [UInt8.lt_iff_toNat_lt]; omega
    simp only [List.cons_append, Lib.compareBytes, if_neg h]
    exact ih
theorem dec_digits (u : Nat) : ∀ c ∈ Lib.decDigits u, 48 ≤ c.toNat ∧ c.toNat ≤ 57 := by
  induction u using Nat.strongRecOn with
  | _ u ih =>
    rw [Lib.decDigits]
    have dig : ∀ n, n < 10 → 48 ≤ (UInt8.ofNat (48 + n)).toNat ∧ (UInt8.ofNat (48 + n)).toNat ≤ 57 := by
      intro n hn
      have : (UInt8.ofNat (48 + n)).toNat = 48 + n := by simp [UInt8.toNat_ofNat']; omega
      omega
    split
    · rename_i h
      intro c hc
      rw [List.mem_singleton.1 hc]
      exact dig u h
    · rename_i h
      intro c hc
      rcases List.mem_append.1 hc with h1 | h1
      · exact ih (u / 10) (by omega) c h1
      · rw [List.mem_singleton.1 h1]
        exact dig (u % 10) (by omega)
theorem dec_ne (u : Nat) : Lib.decDigits u ≠ [] := by
  rw [Lib.decDigits]; split <;> simp
/-- A number's text. -/
theorem text_i {n : Int} (h : FitP 1 n ⟨#[]⟩) (m : Nat) : value_Text.f (m + 1) 1 n ⟨#[]⟩ = some ⟨(Lib.itoa n).toArray⟩ := by
  simp only [value_Text.f, fits_of h, Option.bind_some, if_true, strconv_FormatInt_27.f]
  rw [if_pos ⟨trivial, h.2.2.2.1, h.2.2.2.2⟩]; rfl
theorem u_rng (n : Int) : 0 ≤ IntKind.u64.wrap n ∧ IntKind.u64.wrap n < 18446744073709551616 := by rw [IntKind.wrap_u64]; omega
theorem text_u {n : Int} (h : FitP 2 n ⟨#[]⟩) (m : Nat) : value_Text.f (m + 1) 2 n ⟨#[]⟩ = some ⟨(Lib.decDigits (IntKind.u64.wrap n).toNat).toArray⟩ := by
  have := u_rng n
  simp only [value_Text.f, fits_of h, Option.bind_some, if_true, strconv_FormatUint_28.f]
  rw [if_neg (by decide), if_pos ⟨trivial, this.1, this.2⟩]; rfl
theorem texts_eq {n : Int} (l : -9223372036854775808 ≤ n) (u : n < 9223372036854775808) : ((⟨(Lib.itoa n).toArray⟩ : ByteArray).toList == (⟨(Lib.decDigits (IntKind.u64.wrap n).toNat).toArray⟩ : ByteArray).toList) = decide (n ≥ 0) := by
  rw [ByteArray.toList_mk, ByteArray.toList_mk]
  by_cases h : 0 ≤ n
  · obtain ⟨m, rfl⟩ := Int.eq_ofNat_of_zero_le h
    rw [show IntKind.u64.wrap (m : Int) = (m : Int) by rw [IntKind.wrap_u64]; omega, Int.toNat_natCast, Lib.itoa_nonneg]
    simp
  · have e : Lib.itoa n = 45 :: Lib.decDigits n.natAbs := by unfold Lib.itoa; rw [if_pos (by omega)]
    rw [e]
    have hd : decide (n ≥ 0) = false := by simp; omega
    rw [hd]
    refine beq_eq_false_iff_ne.2 fun hh => ?_
    have := dec_digits (IntKind.u64.wrap n).toNat 45 (by rw [← hh]; simp)
    revert this; decide
theorem signs_c (a b : Int) (la : -9223372036854775808 ≤ a) (ua : a < 9223372036854775808) (lb : -9223372036854775808 ≤ b) (ub : b < 9223372036854775808) :
    ((a < 0 ↔ b < 0) → c3 (IntKind.u64.wrap a) (IntKind.u64.wrap b) = c3 a b) ∧ (¬ (a < 0 ↔ b < 0) → c3 (IntKind.u64.wrap a) (IntKind.u64.wrap b) = - c3 a b) := by
  have h1 := c3_rng a b
  have h2 := c3_rng (IntKind.u64.wrap a) (IntKind.u64.wrap b)
  rw [IntKind.wrap_u64, IntKind.wrap_u64] at *
  constructor <;> intro h <;> omega
theorem c9 {w W : World} {g0 g1 g2 gp gq gl : Nat} {n0 n1 : Int} {p q pl : ByteArray} (h : ST w W ([(g0, #[.int .i64 n0, .int .i64 n1], 30), (g1, #[.int .i64 n0, .string ⟨#[]⟩], 23), (g2, #[.int .i64 n1, .string ⟨#[]⟩], 23)] ++ [(gp, #[.int .i64 0, .string p], 23)] ++ [(gq, #[.int .i64 0, .string q], 23)] ++ [(gl, #[.int .i64 0, .string pl], 23)])) :
    W.cell? ⟨g0, 0, none⟩ = some (.int .i64 n0) ∧ W.cell? ⟨g1, 0, none⟩ = some (.int .i64 n0) ∧ W.cell? ⟨g1, 1, none⟩ = some (.string ⟨#[]⟩) ∧ W.cell? ⟨gp, 0, none⟩ = some (.int .i64 0) ∧ W.cell? ⟨gp, 1, none⟩ = some (.string p) ∧ W.cell? ⟨gq, 0, none⟩ = some (.int .i64 0) ∧ W.cell? ⟨gq, 1, none⟩ = some (.string q) ∧ W.cell? ⟨gl, 0, none⟩ = some (.int .i64 0) ∧ W.cell? ⟨gl, 1, none⟩ = some (.string pl) :=
  ⟨h.cell (j := 0) rfl 0, h.cell (j := 1) rfl 0, h.cell (j := 1) rfl 1, h.cell (j := 3) rfl 0, h.cell (j := 3) rfl 1, h.cell (j := 4) rfl 0, h.cell (j := 4) rfl 1, h.cell (j := 5) rfl 0, h.cell (j := 5) rfl 1⟩
def ValueSigns.T11 : Bool × List (List Nat × List Nat) := (true, [([], []), ([0], [0]), ([1], [1]), ([2, 1, 1], [1, 2]), ([1], [1]), ([4, 3, 1], [1, 4]), ([3, 5, 1], [1, 3, 5]), ([1], [1]), ([7, 1], [1, 7]), ([8, 1], [1, 8]), ([6, 9, 1], [1, 6, 9]), ([1, 10], [1, 10]), ([11, 5], [11]), ([12], [12]), ([12], [12]), ([13, 14, 12, 12], [12, 13, 14]), ([15, 12], [12, 15]), ([12], [12]), ([17, 12], [12, 17]), ([12], [12]), ([19, 12], [12, 19]), ([18, 20, 12], [12, 18, 20]), ([16, 21, 12], [12, 16, 21]), ([12, 22], [12, 22]), ([23, 15], [23]), ([24], [24]), ([24], [24]), ([25, 26, 24, 24], [24, 25, 26]), ([27, 24], [24, 27]), ([24, 28], [24, 28]), ([29, 27, 0, 1, 2, 3, 4, 5, 6, 7, 8, 9, 10, 11, 12, 13, 14, 15, 16, 17, 18, 19, 20, 21, 22, 23, 24, 25, 26, 27, 28, 29], [29])])
def ValueSigns.B11 : List Nat := [0, 1, 3, 7, 3, 31, 63, 3, 131, 387, 1023, 2047, 4095, 8191, 8191, 32767, 65535, 8191, 139263, 8191, 532479, 1974271, 4194303, 8388607, 16777215, 33554431, 33554431, 134217727, 268435455, 536870911, 1073741823]
theorem ValueSigns.tab11 : rtab .any (opsOf Tryd.f4 11) = ValueSigns.T11 := by kernel_rfl
theorem ValueSigns.bits11 : waitsOk ValueSigns.T11.2 ValueSigns.B11 = true := by kernel_rfl
set_option maxHeartbeats 8000000 in
set_option maxRecDepth 100000 in
theorem ValueSigns.works (n0 n1 : Int) (s0 s1 : ByteArray) (w : World) (HT : Aside0 (LT w))
    (hl0 : -9223372036854775808 ≤ n0) (hu0 : n0 < 9223372036854775808) (hl1 : -9223372036854775808 ≤ n1) (hu1 : n1 < 9223372036854775808) :
    Calls Tryd.prog 4 #[.agg #[.int .i64 n0, .int .i64 n1], .string s0, .string s1] w fun e w' => e = .returned (.bool true) ∧ Below w.heap.size w w' := by
  have P1 := Aside0.mk (show FitP 1 n0 ⟨#[]⟩ from ⟨by decide, fun e => absurd e (by decide), fun _ => rfl, hl0, hu0⟩)
  have P2 := Aside0.mk (show FitP 1 n1 ⟨#[]⟩ from ⟨by decide, fun e => absurd e (by decide), fun _ => rfl, hl1, hu1⟩)
  have Q1 := Aside0.mk (show FitP 2 n0 ⟨#[]⟩ from ⟨by decide, fun e => absurd e (by decide), fun _ => rfl, hl0, hu0⟩)
  have Q2 := Aside0.mk (show FitP 2 n1 ⟨#[]⟩ from ⟨by decide, fun e => absurd e (by decide), fun _ => rfl, hl1, hu1⟩)
  have hsig := signs_c n0 n1 hl0 hu0 hl1 hu1
  have hc := c3_rng n0 n1
  have HX := Aside0.mk (cmp_of' P1.out P2.out)
  have HY := Aside0.mk (cmp_of' Q1.out Q2.out)
  rw [show cV 1 n0 ⟨#[]⟩ n1 ⟨#[]⟩ = c3 n0 n1 from rfl] at HX
  rw [show cV 2 n0 ⟨#[]⟩ n1 ⟨#[]⟩ = c3 (IntKind.u64.wrap n0) (IntKind.u64.wrap n1) from rfl] at HY
  generalize c3 (IntKind.u64.wrap n0) (IntKind.u64.wrap n1) = y at *
  generalize c3 n0 n1 = x at *
  have HSG := Aside0.mk hsig
  have HCC := Aside0.mk hc
  clear hsig hc
  have S := Aside0.mk ((ST.start w).new #[.int .i64 n0, .int .i64 n1] 30)
  go_enter Tryd.func4, Tryd.ntmps4
  go_wp2_with fail
  refine (thresherlaw03_shown.calls 1 true _ ⟨LT.step HT.out S.out.b⟩ (shown_true 0)).mono ?_
  rintro e w1 ⟨rfl, hb⟩
  replace S := Aside0.mk ((S.out).step hb)
  clear hb
  have cx0 : w1.cell? ⟨w.heap.size, 0, none⟩ = some (.int .i64 n0) := ST.cell (j := 0) S.out rfl 0
  have cx1 : (w1.alloc (.cells #[.int .i64 n0, .string ⟨#[]⟩] 23)).cell? ⟨w.heap.size, 1, none⟩ = some (.int .i64 n1) := ST.cell (j := 0) (S.out.alloc _) rfl 1
  replace S := Aside0.mk ((S.out.new #[.int .i64 n0, .string ⟨#[]⟩] 23).new #[.int .i64 n1, .string ⟨#[]⟩] 23)
  simp only [sz_alloc] at S
  go_wp2_with fail
  refine (HX.out _).mono ?_
  rintro e w2 ⟨rfl, hb⟩
  replace S := Aside0.mk (S.out.step hb)
  clear hb cx0 cx1
  have ca0 : (w2).cell? ⟨w1.heap.size, 0, none⟩ = some (.int .i64 n0) := ST.cell (j := 1) S.out rfl 0
  have ca1 : (w2).cell? ⟨w1.heap.size, 1, none⟩ = some (.string ⟨#[]⟩) := ST.cell (j := 1) S.out rfl 1
  have cb0 : (w2).cell? ⟨w1.heap.size + 1, 0, none⟩ = some (.int .i64 n1) := ST.cell (j := 2) S.out rfl 0
  have cb1 : (w2).cell? ⟨w1.heap.size + 1, 1, none⟩ = some (.string ⟨#[]⟩) := ST.cell (j := 2) S.out rfl 1
  go_wp2_with fail
  refine (HY.out _).mono ?_
  rintro e w3 ⟨rfl, hb⟩
  replace S := Aside0.mk ((S.out).step hb)
  clear hb
  clear ca0 ca1 cb0 cb1
  go_upto_region 6 with fail
  go_cut [64] (fun v64 wc => v64 = .bool false ∧ Aside0 (ST w wc [(w.heap.size, #[.int .i64 n0, .int .i64 n1], 30), (w1.heap.size, #[.int .i64 n0, .string ⟨#[]⟩], 23), (w1.heap.size + 1, #[.int .i64 n1, .string ⟨#[]⟩], 23)]))
  case first =>
    have cx0 : w3.cell? ⟨w.heap.size, 0, none⟩ = some (.int .i64 n0) := ST.cell (j := 0) S.out rfl 0
    have cx1 : w3.cell? ⟨w.heap.size, 1, none⟩ = some (.int .i64 n1) := ST.cell (j := 0) S.out rfl 1
    have hc := HCC.out
    have hsg := HSG.out
    by_cases z0 : n0 < 0 <;> by_cases z1 : n1 < 0
    · have hy : y = x := by omega
      clear hsg
      have b0 : decide (n0 < 0) = true := decide_eq_true z0
      have b1 : decide (n1 < 0) = true := decide_eq_true z1
      subst hy
      rcases hc with ⟨hx, hc⟩ | ⟨hx, hc⟩ | ⟨hx, hc⟩
      all_goals first
      | (exfalso; omega)
      | (have b2 : decide (n0 < n1) = true := decide_eq_true (by omega)
         subst hx
         clear z0 z1 hc
         go_wp2
         go_meet
         case rel => exact ⟨rfl, ⟨S.out⟩⟩)
      | (have b2 : decide (n0 < n1) = false := decide_eq_false (by omega)
         subst hx
         clear z0 z1 hc
         go_wp2
         go_meet
         case rel => exact ⟨rfl, ⟨S.out⟩⟩)
    · have hy : y = -x := by omega
      clear hsg
      have b0 : decide (n0 < 0) = true := decide_eq_true z0
      have b1 : decide (n1 < 0) = false := decide_eq_false z1
      subst hy
      rcases hc with ⟨hx, hc⟩ | ⟨hx, hc⟩ | ⟨hx, hc⟩
      all_goals first
      | (exfalso; omega)
      | (have b2 : decide (n0 < n1) = true := decide_eq_true (by omega)
         subst hx
         clear z0 z1 hc
         go_wp2
         go_meet
         case rel => exact ⟨rfl, ⟨S.out⟩⟩)
      | (have b2 : decide (n0 < n1) = false := decide_eq_false (by omega)
         subst hx
         clear z0 z1 hc
         go_wp2
         go_meet
         case rel => exact ⟨rfl, ⟨S.out⟩⟩)
    · have hy : y = -x := by omega
      clear hsg
      have b0 : decide (n0 < 0) = false := decide_eq_false z0
      have b1 : decide (n1 < 0) = true := decide_eq_true z1
      subst hy
      rcases hc with ⟨hx, hc⟩ | ⟨hx, hc⟩ | ⟨hx, hc⟩
      all_goals first
      | (exfalso; omega)
      | (have b2 : decide (n0 < n1) = true := decide_eq_true (by omega)
         subst hx
         clear z0 z1 hc
         go_wp2
         go_meet
         case rel => exact ⟨rfl, ⟨S.out⟩⟩)
      | (have b2 : decide (n0 < n1) = false := decide_eq_false (by omega)
         subst hx
         clear z0 z1 hc
         go_wp2
         go_meet
         case rel => exact ⟨rfl, ⟨S.out⟩⟩)
    · have hy : y = x := by omega
      clear hsg
      have b0 : decide (n0 < 0) = false := decide_eq_false z0
      have b1 : decide (n1 < 0) = false := decide_eq_false z1
      subst hy
      rcases hc with ⟨hx, hc⟩ | ⟨hx, hc⟩ | ⟨hx, hc⟩
      all_goals first
      | (exfalso; omega)
      | (have b2 : decide (n0 < n1) = true := decide_eq_true (by omega)
         subst hx
         clear z0 z1 hc
         go_wp2
         go_meet
         case rel => exact ⟨rfl, ⟨S.out⟩⟩)
      | (have b2 : decide (n0 < n1) = false := decide_eq_false (by omega)
         subst hx
         clear z0 z1 hc
         go_wp2
         go_meet
         case rel => exact ⟨rfl, ⟨S.out⟩⟩)
  case rest =>
    obtain ⟨rfl, S⟩ := hcut
    go_upto_region 8 with fail
    go_cut [12] (fun v12 wc => ∃ (g : Nat) (pz : ByteArray), v12 = .pointer (some ⟨g, 0, none⟩) ∧ Aside0 (pz.size ≤ 59) ∧ Aside0 (ST w wc ([(w.heap.size, #[.int .i64 n0, .int .i64 n1], 30), (w1.heap.size, #[.int .i64 n0, .string ⟨#[]⟩], 23), (w1.heap.size + 1, #[.int .i64 n1, .string ⟨#[]⟩], 23)] ++ [(g, #[.int .i64 0, .string pz], 23)])))
    case first =>
      go_wp2
      go_meet
      case rel => exact ⟨_, s0.extract 0 (min (s0.size : Int) 59).toNat, rfl, ⟨by simp; omega⟩, ⟨S.out.new _ _⟩⟩
    case rest =>
      obtain ⟨gp, p, rfl, HP, S⟩ := hcut
      go_upto_region 9 with fail
      go_cut [13] (fun v12 wc => ∃ (g : Nat) (pz : ByteArray), v12 = .pointer (some ⟨g, 0, none⟩) ∧ Aside0 (pz.size ≤ 59) ∧ Aside0 (ST w wc (([(w.heap.size, #[.int .i64 n0, .int .i64 n1], 30), (w1.heap.size, #[.int .i64 n0, .string ⟨#[]⟩], 23), (w1.heap.size + 1, #[.int .i64 n1, .string ⟨#[]⟩], 23)] ++ [(gp, #[.int .i64 0, .string p], 23)]) ++ [(g, #[.int .i64 0, .string pz], 23)])))
      case first =>
        go_wp2
        go_meet
        case rel => exact ⟨_, s1.extract 0 (min (s1.size : Int) 59).toNat, rfl, ⟨by simp; omega⟩, ⟨S.out.new _ _⟩⟩
      case rest =>
        obtain ⟨gq, q, rfl, HQ, S⟩ := hcut
        have hp := HP.out
        have hq := HQ.out
        have cp : wc.cell? ⟨gp, 1, none⟩ = some (.string p) := ST.cell (j := 3) S.out rfl 1
        go_upto_region 11 with fail
        replace S := Aside0.mk (S.out.new #[.int .i64 0, .string (p ++ ⟨#[0]⟩)] 23)
        obtain ⟨t1, t2, ht1, ht2, hteq⟩ : ∃ t1 t2, value_Text.f 1 1 n0 ⟨#[]⟩ = some t1 ∧ value_Text.f 1 2 n0 ⟨#[]⟩ = some t2 ∧ (t1.toList == t2.toList) = decide (n0 ≥ 0) :=
          ⟨_, _, text_i P1.out 0, text_u Q1.out 0, texts_eq hl0 hu0⟩
        have T1 := Aside0.mk ht1
        have T2 := Aside0.mk ht2
        have F3 := Aside0.mk (show FitP 3 0 p from ⟨by decide, fun _ => ⟨rfl, by omega⟩, fun e => absurd rfl e, by decide, by decide⟩)
        have F4 := Aside0.mk (show FitP 3 0 q from ⟨by decide, fun _ => ⟨rfl, by omega⟩, fun e => absurd rfl e, by decide, by decide⟩)
        have F5 := Aside0.mk (show FitP 3 0 (p ++ ⟨#[0]⟩) from ⟨by decide, fun _ => ⟨rfl, by rw [ByteArray.size_append]; show p.size + 1 ≤ 60; omega⟩, fun e => absurd rfl e, by decide, by decide⟩)
        have HPQ := Aside0.mk (cmp_of' F3.out F4.out)
        have hless : Op.bytesLess p.toList q.toList = decide (cV 3 0 p 0 q < 0) := by rw [less_c, toList_eq, toList_eq]; rfl
        generalize cV 3 0 p 0 q = cc at HPQ hless
        have HPL := Aside0.mk (cmp_of' F3.out F5.out)
        rw [show cV 3 0 p 0 (p ++ ⟨#[0]⟩) = -1 from by unfold cV; rw [if_pos rfl]; have e : (p ++ ⟨#[0]⟩ : ByteArray).data.toList = p.data.toList ++ [0] := (by simp); rw [e]; exact cB_longer p.data.toList] at HPL
        clear ht1 ht2 cp HP HQ HX HY HSG HCC
        generalize p ++ (⟨#[0]⟩ : ByteArray) = pl at *
        generalize hgl : wc.heap.size = gl at *
        have HGL := Aside0.mk hgl
        clear hgl
        refine start_ (n := 31) (S := fun w' => w'.cell? ⟨w.heap.size, 0, none⟩ = some (.int .i64 n0) ∧ w'.cell? ⟨w1.heap.size, 0, none⟩ = some (.int .i64 n0) ∧ w'.cell? ⟨w1.heap.size, 1, none⟩ = some (.string ⟨#[]⟩) ∧ w'.cell? ⟨gp, 0, none⟩ = some (.int .i64 0) ∧ w'.cell? ⟨gp, 1, none⟩ = some (.string p) ∧ w'.cell? ⟨gq, 0, none⟩ = some (.int .i64 0) ∧ w'.cell? ⟨gq, 1, none⟩ = some (.string q) ∧ w'.cell? ⟨gl, 0, none⟩ = some (.int .i64 0) ∧ w'.cell? ⟨gl, 1, none⟩ = some (.string pl)) (ds := []) #[false, false, false, false, false, false, false, false, false, false, false, false, false, false, false, false, false, false, false, false, false, false, false, false, false, false, false, false, false, false, false] (by kernel_rfl) rfl rfl (c9 S.out.drew) (fun hHeld => ?_); refine with_tabW ValueSigns.tab11 ValueSigns.bits11 (fun HT_ HW_ => ?_)
        refine pure_ (i := 0) (N := (some 81)) (v := ?_) (a' := ?_) #[true, false, false, false, false, false, false, false, false, false, false, false, false, false, false, false, false, false, false, false, false, false, false, false, false, false, false, false, false, false, false] rfl rfl (any_of HT_.out (by kernel_rfl)) (fun _ _ _ h => h) (Or.inl ⟨by rfl, ?_⟩) ?_ ?_
        rotate_left
        · intro w'
          go_simp
          with_reducible rfl
        rotate_left
        · simp only [Act.put, List.setIfInBounds_toArray, List.set_cons_zero, List.set_cons_succ, i64_w, i32_w]
          rfl
        refine pure_ (i := 1) (N := (some 82)) (v := ?_) (a' := ?_) #[true, true, false, false, false, false, false, false, false, false, false, false, false, false, false, false, false, false, false, false, false, false, false, false, false, false, false, false, false, false, false] rfl rfl (any_of HT_.out (by kernel_rfl)) (fun _ _ _ h => h) (Or.inl ⟨by rfl, ?_⟩) ?_ ?_
        rotate_left
        · intro w'
          go_simp
          with_reducible rfl
        rotate_left
        · simp only [Act.put, List.setIfInBounds_toArray, List.set_cons_zero, List.set_cons_succ, i64_w, i32_w]
          rfl
        refine take_ (i := 2) (N := (some 83)) (v := ?_) (a' := ?_) #[true, true, true, false, false, false, false, false, false, false, false, false, false, false, false, false, false, false, false, false, false, false, false, false, false, false, false, false, false, false, false] rfl rfl (take_ofW HT_.out HW_.out (by kernel_rfl)) (fun _ _ _ h => h) (Or.inl ⟨by rfl, ?_⟩) hHeld ?_ ?_
        rotate_left
        · rintro w' ⟨s0, s1, s2, s3, s4, s5, s6, s7, s8⟩
          go_simp
          with_reducible rfl
        rotate_left
        · simp only [Act.put, List.setIfInBounds_toArray, List.set_cons_zero, List.set_cons_succ, i64_w, i32_w]
          rfl
        refine take_ (i := 4) (N := (some 85)) (v := ?_) (a' := ?_) #[true, true, true, false, true, false, false, false, false, false, false, false, false, false, false, false, false, false, false, false, false, false, false, false, false, false, false, false, false, false, false] rfl rfl (take_ofW HT_.out HW_.out (by kernel_rfl)) (fun _ _ _ h => h) (Or.inl ⟨by rfl, ?_⟩) hHeld ?_ ?_
        rotate_left
        · rintro w' ⟨s0, s1, s2, s3, s4, s5, s6, s7, s8⟩
          go_simp
          with_reducible rfl
        rotate_left
        · simp only [Act.put, List.setIfInBounds_toArray, List.set_cons_zero, List.set_cons_succ, i64_w, i32_w]
          rfl
        refine pure_ (i := 7) (N := (some 88)) (v := ?_) (a' := ?_) #[true, true, true, false, true, false, false, true, false, false, false, false, false, false, false, false, false, false, false, false, false, false, false, false, false, false, false, false, false, false, false] rfl rfl (any_of HT_.out (by kernel_rfl)) (fun _ _ _ h => h) (Or.inl ⟨by rfl, ?_⟩) ?_ ?_
        rotate_left
        · intro w'
          go_simp
          with_reducible rfl
        rotate_left
        · simp only [Act.put, List.setIfInBounds_toArray, List.set_cons_zero, List.set_cons_succ, i64_w, i32_w]
          rfl
        refine take_ (i := 8) (N := (some 89)) (v := ?_) (a' := ?_) #[true, true, true, false, true, false, false, true, true, false, false, false, false, false, false, false, false, false, false, false, false, false, false, false, false, false, false, false, false, false, false] rfl rfl (take_ofW HT_.out HW_.out (by kernel_rfl)) (fun _ _ _ h => h) (Or.inl ⟨by rfl, ?_⟩) hHeld ?_ ?_
        rotate_left
        · rintro w' ⟨s0, s1, s2, s3, s4, s5, s6, s7, s8⟩
          go_simp
          with_reducible rfl
        rotate_left
        · simp only [Act.put, List.setIfInBounds_toArray, List.set_cons_zero, List.set_cons_succ, i64_w, i32_w]
          rfl
        refine pure_ (i := 9) (N := (some 90)) (v := ?_) (a' := ?_) #[true, true, true, false, true, false, false, true, true, true, false, false, false, false, false, false, false, false, false, false, false, false, false, false, false, false, false, false, false, false, false] rfl rfl (any_of HT_.out (by kernel_rfl)) (fun _ _ _ h => h) (Or.inl ⟨by rfl, ?_⟩) ?_ ?_
        rotate_left
        · intro w'
          go_simp
          with_reducible rfl
        rotate_left
        · simp only [Act.put, List.setIfInBounds_toArray, List.set_cons_zero, List.set_cons_succ, i64_w, i32_w]
          rfl
        refine one_ (i := 3) (N := (some 84)) #[true, true, true, true, true, false, false, true, true, true, false, false, false, false, false, false, false, false, false, false, false, false, false, false, false, false, false, false, false, false, false] rfl rfl (one_of HT_.out (by kernel_rfl)) (by decide) (fun K hK => ?_)
        refine goes_ Tryd.func13 (by kernel_rfl) rfl #[.int .i64 1, .agg #[.int .i64 n0, .string ⟨#[]⟩]] (by rfl) rfl rfl (by (try simp only [List.map_toArray, List.map_cons, List.map_nil]); first | done | rfl) ?_
        refine (value_Text.calls 1 1 n0 ⟨#[]⟩ t1 _ ⟨LT.step HT.out S.out.drew.b⟩ T1.out).mono ?_
        rintro e x1 ⟨rfl, h3⟩
        refine ⟨_, rfl, ?_⟩
        have S1 := Aside0.mk (ST.step S.out.drew h3)
        clear h3
        refine hK.out _ _ (c9 S1.out) (fun hHeld => ?_)
        clear hK K
        refine norm_ (a' := ?_) ?_ ?_
        rotate_left
        · show Act.put _ (some 84) _ = _
          simp only [Act.put, List.setIfInBounds_toArray, List.set_cons_zero, List.set_cons_succ, i64_w, i32_w]
          rfl
        refine one_ (i := 5) (N := (some 86)) #[true, true, true, true, true, true, false, true, true, true, false, false, false, false, false, false, false, false, false, false, false, false, false, false, false, false, false, false, false, false, false] rfl rfl (one_of HT_.out (by kernel_rfl)) (by decide) (fun K hK => ?_)
        refine goes_ Tryd.func13 (by kernel_rfl) rfl #[.int .i64 2, .agg #[.int .i64 n0, .string ⟨#[]⟩]] (by rfl) rfl rfl (by (try simp only [List.map_toArray, List.map_cons, List.map_nil]); first | done | rfl) ?_
        refine (value_Text.calls 1 2 n0 ⟨#[]⟩ t2 _ ⟨LT.step HT.out S1.out.b⟩ T2.out).mono ?_
        rintro e x2 ⟨rfl, h3⟩
        refine ⟨_, rfl, ?_⟩
        have S2 := Aside0.mk (ST.step S1.out h3)
        clear h3
        refine hK.out _ _ (c9 S2.out) (fun hHeld => ?_)
        clear hK K
        refine norm_ (a' := ?_) ?_ ?_
        rotate_left
        · show Act.put _ (some 86) _ = _
          simp only [Act.put, List.setIfInBounds_toArray, List.set_cons_zero, List.set_cons_succ, i64_w, i32_w]
          rfl
        refine pure_ (i := 6) (N := (some 87)) (v := ?_) (a' := ?_) #[true, true, true, true, true, true, true, true, true, true, false, false, false, false, false, false, false, false, false, false, false, false, false, false, false, false, false, false, false, false, false] rfl rfl (any_of HT_.out (by kernel_rfl)) (fun _ _ _ h => h) (Or.inl ⟨by rfl, ?_⟩) ?_ ?_
        rotate_left
        · intro w'
          go_simp
          with_reducible rfl
        rotate_left
        · simp only [Act.put, List.setIfInBounds_toArray, List.set_cons_zero, List.set_cons_succ, i64_w, i32_w]
          rfl
        refine pure_ (i := 10) (N := (some 91)) (v := ?_) (a' := ?_) #[true, true, true, true, true, true, true, true, true, true, true, false, false, false, false, false, false, false, false, false, false, false, false, false, false, false, false, false, false, false, false] rfl rfl (any_of HT_.out (by kernel_rfl)) (fun _ _ _ h => h) (Or.inl ⟨by rfl, ?_⟩) ?_ ?_
        rotate_left
        · intro w'
          go_simp
          with_reducible rfl
        rotate_left
        · simp only [Act.put, List.setIfInBounds_toArray, List.set_cons_zero, List.set_cons_succ, i64_w, i32_w]
          rfl
        refine pure_ (i := 11) (N := (some 92)) (v := ?_) (a' := ?_) #[true, true, true, true, true, true, true, true, true, true, true, true, false, false, false, false, false, false, false, false, false, false, false, false, false, false, false, false, false, false, false] rfl rfl (any_of HT_.out (by kernel_rfl)) (fun _ _ _ h => h) (Or.inl ⟨by rfl, ?_⟩) ?_ ?_
        rotate_left
        · intro w'
          go_simp
          with_reducible rfl
        rotate_left
        · simp only [Act.put, List.setIfInBounds_toArray, List.set_cons_zero, List.set_cons_succ, i64_w, i32_w]
          rfl
        refine pure_ (i := 12) (N := (some 93)) (v := ?_) (a' := ?_) #[true, true, true, true, true, true, true, true, true, true, true, true, true, false, false, false, false, false, false, false, false, false, false, false, false, false, false, false, false, false, false] rfl rfl (any_of HT_.out (by kernel_rfl)) (fun _ _ _ h => h) (Or.inl ⟨by rfl, ?_⟩) ?_ ?_
        rotate_left
        · intro w'
          go_simp
          with_reducible rfl
        rotate_left
        · simp only [Act.put, List.setIfInBounds_toArray, List.set_cons_zero, List.set_cons_succ, i64_w, i32_w]
          rfl
        refine take_ (i := 13) (N := (some 94)) (v := ?_) (a' := ?_) #[true, true, true, true, true, true, true, true, true, true, true, true, true, true, false, false, false, false, false, false, false, false, false, false, false, false, false, false, false, false, false] rfl rfl (take_ofW HT_.out HW_.out (by kernel_rfl)) (fun _ _ _ h => h) (Or.inl ⟨by rfl, ?_⟩) hHeld ?_ ?_
        rotate_left
        · rintro w' ⟨s0, s1, s2, s3, s4, s5, s6, s7, s8⟩
          go_simp
          with_reducible rfl
        rotate_left
        · simp only [Act.put, List.setIfInBounds_toArray, List.set_cons_zero, List.set_cons_succ, i64_w, i32_w]
          rfl
        refine take_ (i := 14) (N := (some 95)) (v := ?_) (a' := ?_) #[true, true, true, true, true, true, true, true, true, true, true, true, true, true, true, false, false, false, false, false, false, false, false, false, false, false, false, false, false, false, false] rfl rfl (take_ofW HT_.out HW_.out (by kernel_rfl)) (fun _ _ _ h => h) (Or.inl ⟨by rfl, ?_⟩) hHeld ?_ ?_
        rotate_left
        · rintro w' ⟨s0, s1, s2, s3, s4, s5, s6, s7, s8⟩
          go_simp
          with_reducible rfl
        rotate_left
        · simp only [Act.put, List.setIfInBounds_toArray, List.set_cons_zero, List.set_cons_succ, i64_w, i32_w]
          rfl
        refine pure_ (i := 17) (N := (some 98)) (v := ?_) (a' := ?_) #[true, true, true, true, true, true, true, true, true, true, true, true, true, true, true, false, false, true, false, false, false, false, false, false, false, false, false, false, false, false, false] rfl rfl (any_of HT_.out (by kernel_rfl)) (fun _ _ _ h => h) (Or.inl ⟨by rfl, ?_⟩) ?_ ?_
        rotate_left
        · intro w'
          go_simp
          with_reducible rfl
        rotate_left
        · simp only [Act.put, List.setIfInBounds_toArray, List.set_cons_zero, List.set_cons_succ, i64_w, i32_w]
          rfl
        refine take_ (i := 18) (N := (some 99)) (v := ?_) (a' := ?_) #[true, true, true, true, true, true, true, true, true, true, true, true, true, true, true, false, false, true, true, false, false, false, false, false, false, false, false, false, false, false, false] rfl rfl (take_ofW HT_.out HW_.out (by kernel_rfl)) (fun _ _ _ h => h) (Or.inl ⟨by rfl, ?_⟩) hHeld ?_ ?_
        rotate_left
        · rintro w' ⟨s0, s1, s2, s3, s4, s5, s6, s7, s8⟩
          go_simp
          with_reducible rfl
        rotate_left
        · simp only [Act.put, List.setIfInBounds_toArray, List.set_cons_zero, List.set_cons_succ, i64_w, i32_w]
          rfl
        refine pure_ (i := 19) (N := (some 100)) (v := ?_) (a' := ?_) #[true, true, true, true, true, true, true, true, true, true, true, true, true, true, true, false, false, true, true, true, false, false, false, false, false, false, false, false, false, false, false] rfl rfl (any_of HT_.out (by kernel_rfl)) (fun _ _ _ h => h) (Or.inl ⟨by rfl, ?_⟩) ?_ ?_
        rotate_left
        · intro w'
          go_simp
          with_reducible rfl
        rotate_left
        · simp only [Act.put, List.setIfInBounds_toArray, List.set_cons_zero, List.set_cons_succ, i64_w, i32_w]
          rfl
        refine take_ (i := 20) (N := (some 101)) (v := ?_) (a' := ?_) #[true, true, true, true, true, true, true, true, true, true, true, true, true, true, true, false, false, true, true, true, true, false, false, false, false, false, false, false, false, false, false] rfl rfl (take_ofW HT_.out HW_.out (by kernel_rfl)) (fun _ _ _ h => h) (Or.inl ⟨by rfl, ?_⟩) hHeld ?_ ?_
        rotate_left
        · rintro w' ⟨s0, s1, s2, s3, s4, s5, s6, s7, s8⟩
          go_simp
          with_reducible rfl
        rotate_left
        · simp only [Act.put, List.setIfInBounds_toArray, List.set_cons_zero, List.set_cons_succ, i64_w, i32_w]
          rfl
        refine pure_ (i := 21) (N := (some 102)) (v := ?_) (a' := ?_) #[true, true, true, true, true, true, true, true, true, true, true, true, true, true, true, false, false, true, true, true, true, true, false, false, false, false, false, false, false, false, false] rfl rfl (any_of HT_.out (by kernel_rfl)) (fun _ _ _ h => h) (Or.inl ⟨by rfl, ?_⟩) ?_ ?_
        rotate_left
        · intro w'
          go_simp
          with_reducible rfl
        rotate_left
        · simp only [Act.put, List.setIfInBounds_toArray, List.set_cons_zero, List.set_cons_succ, i64_w, i32_w]
          rfl
        refine one_ (i := 15) (N := (some 96)) #[true, true, true, true, true, true, true, true, true, true, true, true, true, true, true, true, false, true, true, true, true, true, false, false, false, false, false, false, false, false, false] rfl rfl (one_of HT_.out (by kernel_rfl)) (by decide) (fun K hK => ?_)
        refine goes_ Tryd.func12 (by kernel_rfl) rfl #[.int .i64 3, .agg #[.int .i64 0, .string p], .agg #[.int .i64 0, .string q]] (by rfl) rfl rfl (by (try simp only [List.map_toArray, List.map_cons, List.map_nil]); first | done | rfl) ?_
        refine (HPQ.out _).mono ?_
        rintro e x3 ⟨rfl, h3⟩
        refine ⟨_, rfl, ?_⟩
        have S3 := Aside0.mk (ST.step S2.out h3)
        clear h3
        refine hK.out _ _ (c9 S3.out) (fun hHeld => ?_)
        clear hK K
        refine norm_ (a' := ?_) ?_ ?_
        rotate_left
        · show Act.put _ (some 96) _ = _
          simp only [Act.put, List.setIfInBounds_toArray, List.set_cons_zero, List.set_cons_succ, i64_w, i32_w]
          rfl
        refine pure_ (i := 16) (N := (some 97)) (v := ?_) (a' := ?_) #[true, true, true, true, true, true, true, true, true, true, true, true, true, true, true, true, true, true, true, true, true, true, false, false, false, false, false, false, false, false, false] rfl rfl (any_of HT_.out (by kernel_rfl)) (fun _ _ _ h => h) (Or.inl ⟨by rfl, ?_⟩) ?_ ?_
        rotate_left
        · intro w'
          go_simp
          with_reducible rfl
        rotate_left
        · simp only [Act.put, List.setIfInBounds_toArray, List.set_cons_zero, List.set_cons_succ, i64_w, i32_w]
          rfl
        refine pure_ (i := 22) (N := (some 103)) (v := ?_) (a' := ?_) #[true, true, true, true, true, true, true, true, true, true, true, true, true, true, true, true, true, true, true, true, true, true, true, false, false, false, false, false, false, false, false] rfl rfl (any_of HT_.out (by kernel_rfl)) (fun _ _ _ h => h) (Or.inl ⟨by rfl, ?_⟩) ?_ ?_
        rotate_left
        · intro w'
          go_simp
          with_reducible rfl
        rotate_left
        · simp only [Act.put, List.setIfInBounds_toArray, List.set_cons_zero, List.set_cons_succ, i64_w, i32_w]
          rfl
        refine pure_ (i := 23) (N := (some 104)) (v := ?_) (a' := ?_) #[true, true, true, true, true, true, true, true, true, true, true, true, true, true, true, true, true, true, true, true, true, true, true, true, false, false, false, false, false, false, false] rfl rfl (any_of HT_.out (by kernel_rfl)) (fun _ _ _ h => h) (Or.inl ⟨by rfl, ?_⟩) ?_ ?_
        rotate_left
        · intro w'
          go_simp
          with_reducible rfl
        rotate_left
        · simp only [Act.put, List.setIfInBounds_toArray, List.set_cons_zero, List.set_cons_succ, i64_w, i32_w]
          rfl
        refine pure_ (i := 24) (N := (some 105)) (v := ?_) (a' := ?_) #[true, true, true, true, true, true, true, true, true, true, true, true, true, true, true, true, true, true, true, true, true, true, true, true, true, false, false, false, false, false, false] rfl rfl (any_of HT_.out (by kernel_rfl)) (fun _ _ _ h => h) (Or.inl ⟨by rfl, ?_⟩) ?_ ?_
        rotate_left
        · intro w'
          go_simp
          with_reducible rfl
        rotate_left
        · simp only [Act.put, List.setIfInBounds_toArray, List.set_cons_zero, List.set_cons_succ, i64_w, i32_w]
          rfl
        refine take_ (i := 25) (N := (some 106)) (v := ?_) (a' := ?_) #[true, true, true, true, true, true, true, true, true, true, true, true, true, true, true, true, true, true, true, true, true, true, true, true, true, true, false, false, false, false, false] rfl rfl (take_ofW HT_.out HW_.out (by kernel_rfl)) (fun _ _ _ h => h) (Or.inl ⟨by rfl, ?_⟩) hHeld ?_ ?_
        rotate_left
        · rintro w' ⟨s0, s1, s2, s3, s4, s5, s6, s7, s8⟩
          go_simp
          with_reducible rfl
        rotate_left
        · simp only [Act.put, List.setIfInBounds_toArray, List.set_cons_zero, List.set_cons_succ, i64_w, i32_w]
          rfl
        refine take_ (i := 26) (N := (some 107)) (v := ?_) (a' := ?_) #[true, true, true, true, true, true, true, true, true, true, true, true, true, true, true, true, true, true, true, true, true, true, true, true, true, true, true, false, false, false, false] rfl rfl (take_ofW HT_.out HW_.out (by kernel_rfl)) (fun _ _ _ h => h) (Or.inl ⟨by rfl, ?_⟩) hHeld ?_ ?_
        rotate_left
        · rintro w' ⟨s0, s1, s2, s3, s4, s5, s6, s7, s8⟩
          go_simp
          with_reducible rfl
        rotate_left
        · simp only [Act.put, List.setIfInBounds_toArray, List.set_cons_zero, List.set_cons_succ, i64_w, i32_w]
          rfl
        refine one_ (i := 27) (N := (some 108)) #[true, true, true, true, true, true, true, true, true, true, true, true, true, true, true, true, true, true, true, true, true, true, true, true, true, true, true, true, false, false, false] rfl rfl (one_of HT_.out (by kernel_rfl)) (by decide) (fun K hK => ?_)
        refine goes_ Tryd.func12 (by kernel_rfl) rfl #[.int .i64 3, .agg #[.int .i64 0, .string p], .agg #[.int .i64 0, .string pl]] (by rfl) rfl rfl (by (try simp only [List.map_toArray, List.map_cons, List.map_nil]); first | done | rfl) ?_
        refine (HPL.out _).mono ?_
        rintro e x4 ⟨rfl, h3⟩
        refine ⟨_, rfl, ?_⟩
        have S4 := Aside0.mk (ST.step S3.out h3)
        clear h3
        refine hK.out _ _ (c9 S4.out) (fun hHeld => ?_)
        clear hK K
        refine norm_ (a' := ?_) ?_ ?_
        rotate_left
        · show Act.put _ (some 108) _ = _
          simp only [Act.put, List.setIfInBounds_toArray, List.set_cons_zero, List.set_cons_succ, i64_w, i32_w]
          rfl
        refine pure_ (i := 28) (N := (some 109)) (v := ?_) (a' := ?_) #[true, true, true, true, true, true, true, true, true, true, true, true, true, true, true, true, true, true, true, true, true, true, true, true, true, true, true, true, true, false, false] rfl rfl (any_of HT_.out (by kernel_rfl)) (fun _ _ _ h => h) (Or.inl ⟨by rfl, ?_⟩) ?_ ?_
        rotate_left
        · intro w'
          go_simp
          with_reducible rfl
        rotate_left
        · simp only [Act.put, List.setIfInBounds_toArray, List.set_cons_zero, List.set_cons_succ, i64_w, i32_w]
          rfl
        refine pure_ (i := 29) (N := (some 110)) (v := ?_) (a' := ?_) #[true, true, true, true, true, true, true, true, true, true, true, true, true, true, true, true, true, true, true, true, true, true, true, true, true, true, true, true, true, true, false] rfl rfl (any_of HT_.out (by kernel_rfl)) (fun _ _ _ h => h) (Or.inl ⟨by rfl, ?_⟩) ?_ ?_
        rotate_left
        · intro w'
          go_simp
          with_reducible rfl
        rotate_left
        · simp only [Act.put, List.setIfInBounds_toArray, List.set_cons_zero, List.set_cons_succ, i64_w, i32_w]
          rfl
        refine pure_ (i := 30) (N := (some 6)) (v := ?_) (a' := ?_) #[true, true, true, true, true, true, true, true, true, true, true, true, true, true, true, true, true, true, true, true, true, true, true, true, true, true, true, true, true, true, true] rfl rfl (any_of HT_.out (by kernel_rfl)) (fun _ _ _ h => h) (Or.inl ⟨by rfl, ?_⟩) ?_ ?_
        rotate_left
        · intro w'
          go_simp
          with_reducible rfl
        rotate_left
        · simp only [Act.put, List.setIfInBounds_toArray, List.set_cons_zero, List.set_cons_succ, i64_w, i32_w]
          rfl
        refine done_ (done_of HT_.out (by kernel_rfl)) ?_
        go_wp2
        go_ret
        exact ⟨rfl, S4.out.b⟩
end Go.Proofs.YtohbpgdhpfmlgaaDoor.PA
