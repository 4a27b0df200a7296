/- The reference's functions answer as the code's: the plain laws, and ValueAll's walk. -/
import Derived.Test.YtohbpgdhpfmlgaaDoorG16
import Derived.Test.YtohbpgdhpfmlgaaDoorPCx8
import Derived.Outline
import Derived.Deep.RegionHeld3
import Derived.Deep.DeepCutAuto
namespace Go.Proofs.YtohbpgdhpfmlgaaDoor.PA
set_option linter.unusedVariables false
set_option linter.unusedSimpArgs false
open Go.Lib Go.RowKit Go.Proofs.YtohbpgdhpfmlgaaDoorW.PrintWords Go.Proofs.YtohbpgdhpfmlgaaDoorW.PrintLast
theorem half_tot (x : Int) (h0 : 0 ≤ x) (h1 : x < 256) (m : Nat) : ∃ r, PC.thresherref03_half.f (m + 1) x = some r ∧ -1 ≤ r ∧ r < 16 := by
  unfold PC.thresherref03_half.f
  simp only [PC.thresherref03_half.j0]
  split
  · split
    · rename_i h2 h3
      have := of_decide_eq_true h3
      exact ⟨_, rfl, by omega, by omega⟩
    · rename_i h2 h3
      split
      · split
        · exact ⟨_, rfl, by omega, by omega⟩
        · exact ⟨_, rfl, by omega, by omega⟩
      · exact ⟨_, rfl, by omega, by omega⟩
  · rw [if_neg (by decide)]
    split
    · split
      · exact ⟨_, rfl, by omega, by omega⟩
      · exact ⟨_, rfl, by omega, by omega⟩
    · exact ⟨_, rfl, by omega, by omega⟩
theorem half_hex (n : Nat) (h : n < 16) (m : Nat) : PC.thresherref03_half.f (m + 1) ((hexL.getD n 0).toNat : Int) = some (n : Int) := by
  match n, h with
  | 0, _ => rfl
  | 1, _ => rfl
  | 2, _ => rfl
  | 3, _ => rfl
  | 4, _ => rfl
  | 5, _ => rfl
  | 6, _ => rfl
  | 7, _ => rfl
  | 8, _ => rfl
  | 9, _ => rfl
  | 10, _ => rfl
  | 11, _ => rfl
  | 12, _ => rfl
  | 13, _ => rfl
  | 14, _ => rfl
  | 15, _ => rfl
  | q + 16, h => omega
theorem bt_rng (s : ByteArray) (i : Int) : 0 ≤ bt s i ∧ bt s i < 256 := by
  unfold bt
  split
  · rename_i h
    have := (s[i.toNat]'h).toNat_lt
    omega
  · omega
theorem w64 {x : Int} (l : -9223372036854775808 ≤ x) (u : x < 9223372036854775808) : wrap64 x = x := by unfold wrap64; omega
theorem text_tot0 (s : ByteArray) (hs : s.size ≤ 1000) : ∀ (d k i : Nat) (acc : List Int), s.size ≤ i + d → i ≤ s.size + 3 → acc.length ≤ i → 2 * d + 2 ≤ k →
    ∃ x b, PC.thresherref03_text.l0 k s acc (i : Int) = some (0, x, b) := by
  intro d
  induction d using Nat.strongRecOn with
  | _ d ih =>
    intro k i acc hd hi ha hk
    obtain ⟨k, rfl⟩ : ∃ q, k = q + 2 := ⟨k - 2, by omega⟩
    rw [PC.thresherref03_text.l0]
    rw [w64 (x := (s.size : Int) - 1) (by omega) (by omega), w64 (x := (i : Int) + 1) (by omega) (by omega), w64 (x := (i : Int) + 2) (by omega) (by omega)]
    by_cases h1 : (i : Int) < (s.size : Int) - 1
    · rw [if_pos h1, if_pos (by omega), if_pos (by omega)]
      have e1 : ((i : Int) + 1) = ((i + 1 : Nat) : Int) := by omega
      have e2 : ((i : Int) + 2) = ((i + 2 : Nat) : Int) := by omega
      by_cases h2 : bt s i = 92
      · rw [if_pos h2]
        have jt : PC.thresherref03_text.j1 (k + 1) s acc i true = some (0, ⟨#[]⟩, false) := by simp only [PC.thresherref03_text.j1]; rfl
        by_cases h3 : (i : Int) + 2 ≥ (s.size : Int)
        · rw [if_pos h3, jt]; exact ⟨_, _, rfl⟩
        · rw [if_neg h3, if_pos (by omega), if_pos (by omega)]
          obtain ⟨a, ha1, ha2, ha3⟩ := half_tot (bt s ((i : Int) + 1)) (bt_rng _ _).1 (bt_rng _ _).2 k
          rw [ha1]
          simp only [Option.bind_some]
          by_cases h4 : a < 0
          · rw [if_pos h4, jt]; exact ⟨_, _, rfl⟩
          · rw [if_neg h4, if_pos (by omega), if_pos (by omega)]
            obtain ⟨b, hb1, hb2, hb3⟩ := half_tot (bt s ((i : Int) + 2)) (bt_rng _ _).1 (bt_rng _ _).2 k
            rw [hb1]
            simp only [Option.bind_some]
            by_cases h5 : b < 0
            · rw [show decide (b < 0) = true from decide_eq_true h5, jt]; exact ⟨_, _, rfl⟩
            · rw [show decide (b < 0) = false from decide_eq_false h5]
              obtain ⟨k, rfl⟩ : ∃ q, k = q + 1 := ⟨k - 1, by omega⟩
              obtain ⟨a', ha1', _, _⟩ := half_tot (bt s ((i : Int) + 1)) (bt_rng _ _).1 (bt_rng _ _).2 k
              obtain ⟨b', hb1', _, _⟩ := half_tot (bt s ((i : Int) + 2)) (bt_rng _ _).1 (bt_rng _ _).2 k
              rw [PC.thresherref03_text.j1]
              rw [w64 (x := (i : Int) + 1) (by omega) (by omega), w64 (x := (i : Int) + 2) (by omega) (by omega), w64 (x := (i : Int) + 2 + 1) (by omega) (by omega)]
              rw [if_neg (by decide), if_pos (by omega), if_pos (by omega), ha1']
              simp only [Option.bind_some]
              rw [if_pos (by omega), if_pos (by omega), hb1']
              simp only [Option.bind_some]
              rw [if_pos (by omega), show (i : Int) + 2 + 1 = ((i + 3 : Nat) : Int) by omega]
              refine ih (d - 3) (by omega) (k + 1) (i + 3) _ (by omega) (by omega) ?_ (by omega)
              simp; omega
      · rw [if_neg h2, if_pos (by omega), e1]
        refine ih (d - 1) (by omega) (k + 1) (i + 1) _ (by omega) (by omega) ?_ (by omega)
        simp; omega
    · rw [if_neg h1]; exact ⟨_, _, rfl⟩
theorem text_odd (s : ByteArray) (acc : List Int) (k i : Nat) (a b : Int) (hs : s.size ≤ 1000) (hi : i + 3 < s.size) (h0 : bt s (i : Int) = 92) (h1 : ∀ m, PC.thresherref03_half.f (m + 1) (bt s ((i + 1 : Nat) : Int)) = some a) (h2 : ∀ m, PC.thresherref03_half.f (m + 1) (bt s ((i + 2 : Nat) : Int)) = some b)
    (a0 : 0 ≤ a) (a1 : a < 16) (b0 : 0 ≤ b) (b1 : b < 16) (ha : acc.length ≤ 1000) :
    PC.thresherref03_text.l0 (k + 3) s acc (i : Int) = PC.thresherref03_text.l0 (k + 1) s (acc ++ [a * 16 + b]) ((i + 3 : Nat) : Int) := by
  rw [PC.thresherref03_text.l0]
  rw [w64 (x := (s.size : Int) - 1) (by omega) (by omega), w64 (x := (i : Int) + 1) (by omega) (by omega), w64 (x := (i : Int) + 2) (by omega) (by omega)]
  rw [show ((i : Int) + 1) = ((i + 1 : Nat) : Int) by omega, show ((i : Int) + 2) = ((i + 2 : Nat) : Int) by omega]
  rw [if_pos (by omega), if_pos (by omega), if_pos (by omega), if_pos h0, if_neg (by omega), if_pos (by omega), if_pos (by omega), h1]
  simp only [Option.bind_some]
  rw [if_neg (by omega), if_pos (by omega), if_pos (by omega), h2]
  simp only [Option.bind_some]
  rw [show decide (b < 0) = false from decide_eq_false (by omega), PC.thresherref03_text.j1]
  rw [w64 (x := (i : Int) + 1) (by omega) (by omega), w64 (x := (i : Int) + 2) (by omega) (by omega), w64 (x := (i : Int) + 2 + 1) (by omega) (by omega)]
  rw [show ((i : Int) + 2 + 1) = ((i + 3 : Nat) : Int) by omega, show ((i : Int) + 1) = ((i + 1 : Nat) : Int) by omega, show ((i : Int) + 2) = ((i + 2 : Nat) : Int) by omega]
  rw [if_neg (by decide), if_pos (by omega), if_pos (by omega), h1]
  simp only [Option.bind_some]
  rw [if_pos (by omega), if_pos (by omega), h2]
  simp only [Option.bind_some]
  rw [if_pos (by omega)]
  rw [w64 (x := a * 16) (by omega) (by omega), w64 (x := a * 16 + b) (by omega) (by omega), show (a * 16 + b) % 256 = a * 16 + b by omega]
theorem text_full (l0 : List UInt8) (hs : l0.length ≤ 1000) : ∀ (l : List UInt8) (k i : Nat) (acc : List Int), l0.drop i = l.flatMap qc ++ [34] → acc.length ≤ i → 2 * l.length + 2 ≤ k →
    PC.thresherref03_text.l0 k ⟨l0.toArray⟩ acc (i : Int) = some (0, strOfNums (acc ++ l.map fun c => (c.toNat : Int)), true) := by
  have bta : ∀ (i : Nat) (c : UInt8) (r : List UInt8), l0.drop i = c :: r → i < l0.length ∧ bt ⟨l0.toArray⟩ (i : Int) = (c.toNat : Int) ∧ l0.drop (i + 1) = r := by
    intro i c r h
    have hl : i < l0.length := by
      have := congrArg List.length h
      simp at this; omega
    rw [List.drop_eq_getElem_cons hl] at h
    obtain ⟨h1, h2⟩ := List.cons.inj h
    exact ⟨hl, by rw [bt_mk l0 i hl, h1], h2⟩
  intro l
  induction l with
  | nil =>
    intro k i acc h ha hk
    obtain ⟨k, rfl⟩ : ∃ q, k = q + 1 := ⟨k - 1, by omega⟩
    have hl := congrArg List.length h
    simp at hl
    have hl2 : l0.length = i + 1 := by omega
    simp only [PC.thresherref03_text.l0, size_mk, hl2]
    rw [w64 (x := ((i + 1 : Nat) : Int) - 1) (by omega) (by omega), if_neg (by omega)]
    simp
  | cons c l ih =>
    intro k i acc h ha hk
    obtain ⟨k, rfl⟩ : ∃ q, k = q + 3 := ⟨k - 3, by simp at hk; omega⟩
    simp only [List.length_cons] at hk
    rw [List.flatMap_cons, List.append_assoc] at h
    have hq : 1 ≤ (l.flatMap qc ++ [34]).length := by simp
    by_cases ho : odd c = true
    · have hqc : qc c = [92, hexL.getD (c.toNat / 16) 0, hexL.getD (c.toNat % 16) 0] := by unfold qc; rw [if_pos ho]
      rw [hqc] at h
      simp only [List.nil_append, List.cons_append] at h
      obtain ⟨i0, b0, d0⟩ := bta i _ _ h
      obtain ⟨i1, b1, d1⟩ := bta (i + 1) _ _ d0
      obtain ⟨i2, b2, d2⟩ := bta (i + 2) _ _ d1
      have hl := congrArg List.length d2
      rw [List.length_drop] at hl
      have hc := c.toNat_lt
      have h1 : ∀ m, PC.thresherref03_half.f (m + 1) (bt ⟨l0.toArray⟩ ((i + 1 : Nat) : Int)) = some ((c.toNat / 16 : Nat) : Int) := fun m => by rw [b1]; exact half_hex _ (by omega) m
      have h2 : ∀ m, PC.thresherref03_half.f (m + 1) (bt ⟨l0.toArray⟩ ((i + 2 : Nat) : Int)) = some ((c.toNat % 16 : Nat) : Int) := fun m => by rw [b2]; exact half_hex _ (by omega) m
      have hz := size_mk l0
      have hw : (((c.toNat / 16 : Nat) : Int) * 16 + ((c.toNat % 16 : Nat) : Int)) = (c.toNat : Int) := by omega
      rw [text_odd ⟨l0.toArray⟩ acc k i _ _ (by omega) (by omega) b0 h1 h2 (by omega) (by omega) (by omega) (by omega) (by omega), hw]
      rw [ih (k + 1) (i + 3) _ d2 (by simp; omega) (by omega)]
      simp
    · have hqc : qc c = [c] := by unfold qc; rw [if_neg ho]
      rw [hqc] at h
      simp only [List.nil_append, List.cons_append] at h
      obtain ⟨i0, b0, d0⟩ := bta i _ _ h
      have hl := congrArg List.length d0
      rw [List.length_drop] at hl
      have h92 : ¬ (c.toNat : Int) = 92 := by
        intro e
        apply ho
        unfold odd
        have : c.toNat = 92 := by omega
        simp [this]
      rw [PC.thresherref03_text.l0]
      simp only [size_mk]
      rw [w64 (x := (l0.length : Int) - 1) (by omega) (by omega), w64 (x := (i : Int) + 1) (by omega) (by omega)]
      rw [if_pos (by omega), if_pos (by omega), if_pos (by omega), b0, if_neg h92, if_pos (by omega), show ((i : Int) + 1) = ((i + 1 : Nat) : Int) by omega]
      rw [ih (k + 2) (i + 1) _ d0 (by simp; omega) (by omega)]
      simp
end Go.Proofs.YtohbpgdhpfmlgaaDoor.PA
namespace Go.Proofs.YtohbpgdhpfmlgaaDoor.PA
set_option linter.unusedVariables false
set_option linter.unusedSimpArgs false
open Go.Lib Go.RowKit Go.Proofs.YtohbpgdhpfmlgaaDoorW.PrintWords Go.Proofs.YtohbpgdhpfmlgaaDoorW.PrintLast
theorem whole_tot0 (s : ByteArray) (hs : s.size ≤ 1000) : ∀ (d k i : Nat) (x : Int), s.size ≤ i + d → i ≤ s.size → d + 1 ≤ k → 0 ≤ x → x < 18446744073709551616 →
    ∃ r b, PC.thresherref03_whole.l0 k s x (i : Int) = some (r, b) ∧ 0 ≤ r ∧ r < 18446744073709551616 := by
  intro d
  induction d with
  | zero =>
    intro k i x hd hi hk x0 x1
    obtain ⟨k, rfl⟩ : ∃ q, k = q + 1 := ⟨k - 1, by omega⟩
    rw [PC.thresherref03_whole.l0, if_neg (by omega)]
    exact ⟨_, _, rfl, x0, x1⟩
  | succ d ih =>
    intro k i x hd hi hk x0 x1
    obtain ⟨k, rfl⟩ : ∃ q, k = q + 1 := ⟨k - 1, by omega⟩
    rw [PC.thresherref03_whole.l0]
    by_cases h1 : (i : Int) < (s.size : Int)
    · rw [if_pos h1, if_pos (by omega)]
      by_cases h2 : bt s i < 48
      · rw [if_pos h2]; exact ⟨_, _, rfl, by omega, by omega⟩
      · rw [if_neg h2]
        by_cases h3 : bt s i > 57
        · rw [if_pos h3]; exact ⟨_, _, rfl, by omega, by omega⟩
        · rw [if_neg h3, w64 (x := (i : Int) + 1) (by omega) (by omega), show ((i : Int) + 1) = ((i + 1 : Nat) : Int) by omega]
          exact ih k (i + 1) _ (by omega) (by omega) (by omega) (u_rng _).1 (u_rng _).2
    · rw [if_neg h1]
      exact ⟨_, _, rfl, x0, x1⟩
/-- The number that digits write, as the reference reads it. -/
def dval : Int → List UInt8 → Int
  | a, [] => a
  | a, c :: r => dval (IntKind.u64.wrap (IntKind.u64.wrap (a * 10) + (((c.toNat : Int) - 48) % 256))) r
theorem dval_snoc : ∀ (l : List UInt8) (a : Int) (c : UInt8), dval a (l ++ [c]) = IntKind.u64.wrap (IntKind.u64.wrap (dval a l * 10) + (((c.toNat : Int) - 48) % 256))
  | [], a, c => rfl
  | d :: l, a, c => by rw [List.cons_append, dval, dval, dval_snoc l]
theorem dval_dec (u : Nat) : u < 18446744073709551616 → dval 0 (Lib.decDigits u) = (u : Int) := by
  induction u using Nat.strongRecOn with
  | _ u ih =>
    intro hu
    have dig : ∀ n, n < 10 → (UInt8.ofNat (48 + n)).toNat = 48 + n := by
      intro n hn
      simp [UInt8.toNat_ofNat']; omega
    rw [Lib.decDigits]
    split
    · rename_i h
      rw [dval, dval, dig u h, IntKind.wrap_u64, IntKind.wrap_u64]
      omega
    · rename_i h
      rw [dval_snoc, ih (u / 10) (by omega) (by omega), dig (u % 10) (by omega), IntKind.wrap_u64, IntKind.wrap_u64]
      omega
theorem whole_full (l0 : List UInt8) (hs : l0.length ≤ 1000) : ∀ (l : List UInt8) (k i : Nat) (x : Int), l0.drop i = l → (∀ c ∈ l, 48 ≤ c.toNat ∧ c.toNat ≤ 57) → l.length + 1 ≤ k →
    PC.thresherref03_whole.l0 k ⟨l0.toArray⟩ x (i : Int) = some (dval x l, true) := by
  intro l
  induction l with
  | nil =>
    intro k i x h hd hk
    obtain ⟨k, rfl⟩ : ∃ q, k = q + 1 := ⟨k - 1, by omega⟩
    have hl := congrArg List.length h
    simp at hl
    rw [PC.thresherref03_whole.l0, size_mk, if_neg (by omega)]
    rfl
  | cons c l ih =>
    intro k i x h hd hk
    obtain ⟨k, rfl⟩ : ∃ q, k = q + 1 := ⟨k - 1, by omega⟩
    simp only [List.length_cons] at hk
    have hl : i < l0.length := by
      have := congrArg List.length h
      simp at this; omega
    have h' := h
    rw [List.drop_eq_getElem_cons hl] at h'
    obtain ⟨h1, h2⟩ := List.cons.inj h'
    have hb : bt ⟨l0.toArray⟩ (i : Int) = (c.toNat : Int) := by rw [bt_mk l0 i hl, h1]
    have hc := hd c (List.mem_cons_self ..)
    rw [PC.thresherref03_whole.l0, size_mk, if_pos (by omega), if_pos (by omega), hb, if_neg (by omega), if_neg (by omega), w64 (x := (i : Int) + 1) (by omega) (by omega), show ((i : Int) + 1) = ((i + 1 : Nat) : Int) by omega]
    rw [ih k (i + 1) _ h2 (fun c' h' => hd c' (List.mem_cons_of_mem _ h')) (by omega), dval]
theorem whole_dec (s : ByteArray) (u : Nat) (hu : u < 18446744073709551616) (h : s.data.toList = Lib.decDigits u) (k : Nat) (hk : 30 ≤ k) : PC.thresherref03_whole.f k s = some ((u : Int), true) := by
  have hss : s = ⟨(Lib.decDigits u).toArray⟩ := toList_inj (by rw [h])
  subst hss
  have h1 := dec_len u
  have h2 := dec_len20 u hu
  obtain ⟨k, rfl⟩ : ∃ q, k = q + 1 := ⟨k - 1, by omega⟩
  unfold PC.thresherref03_whole.f
  rw [size_mk, if_neg (by omega), show decide (((Lib.decDigits u).length : Int) > 20) = false from decide_eq_false (by omega), PC.thresherref03_whole.j0, if_neg (by decide)]
  have := whole_full (Lib.decDigits u) (by omega) (Lib.decDigits u) k 0 0 rfl (dec_digits u) (by omega)
  rw [show ((0 : Int)) = ((0 : Nat) : Int) from rfl] at *
  rw [this, ← dval_dec u hu]
  rfl
theorem whole_tot (s : ByteArray) (k : Nat) (hk : 30 ≤ k) : ∃ r b, PC.thresherref03_whole.f k s = some (r, b) ∧ 0 ≤ r ∧ r < 18446744073709551616 := by
  obtain ⟨k, rfl⟩ : ∃ q, k = q + 1 := ⟨k - 1, by omega⟩
  have jt : PC.thresherref03_whole.j0 (k + 1) s true = some (0, false) := by rw [PC.thresherref03_whole.j0, if_pos rfl]
  unfold PC.thresherref03_whole.f
  by_cases h1 : (s.size : Int) < 1
  · rw [if_pos h1, jt]; exact ⟨_, _, rfl, by omega, by omega⟩
  · rw [if_neg h1]
    by_cases h2 : (s.size : Int) > 20
    · rw [decide_eq_true h2, jt]; exact ⟨_, _, rfl, by omega, by omega⟩
    · rw [decide_eq_false h2, PC.thresherref03_whole.j0, if_neg (by decide)]
      exact whole_tot0 s (by omega) s.size k 0 0 (by omega) (by omega) (by omega) (by omega) (by omega)
/-! ### What Read tells -/
theorem parsed_rng (t : Int) (s : ByteArray) (p : Int × ByteArray) (h : parsed t s = some p) : -9223372036854775808 ≤ p.1 ∧ p.1 < 9223372036854775808 := by
  unfold parsed at h
  split at h
  · split at h
    · rename_i v hv
      obtain rfl := Option.some.inj h
      exact parseI_rng _ _ hv
    · cases h
  · split at h
    · split at h
      · obtain rfl := Option.some.inj h
        unfold wrap64; simp only; omega
      · cases h
    · split at h
      · obtain rfl := Option.some.inj h
        simp only; omega
      · cases h
theorem readV_true (t : Int) (s : ByteArray) (h : (readV t s).2 = true) : s.data.toList ≠ [] ∧ value_Text.f 1 t (readV t s).1.1 (readV t s).1.2 = some s ∧ FitP t (readV t s).1.1 (readV t s).1.2 := by
  unfold readV at h ⊢
  cases hp : parsed t s with
  | none => rw [hp] at h; cases h
  | some p =>
    rw [hp] at h
    simp only at h ⊢
    by_cases h1 : s.data.toList = []
    · rw [if_pos h1] at h; cases h
    · rw [if_neg h1] at h ⊢
      by_cases h2 : value_Text.f 1 t p.1 p.2 = some s
      · rw [if_pos h2]
        refine ⟨h1, h2, ?_⟩
        have hr := parsed_rng t s p hp
        cases hb : fitB t p.1 p.2 with
        | true => exact fitP_of hb hr.1 hr.2
        | false =>
          rw [text_bad t p.1 p.2 hb] at h2
          exact absurd (by rw [← Option.some.inj h2]) h1
      · rw [if_neg h2] at h; cases h
theorem readV_false (t : Int) (s : ByteArray) (h : (readV t s).2 = false) : readV t s = ((0, ⟨#[]⟩), false) := by
  unfold readV at h ⊢
  cases hp : parsed t s with
  | none => rfl
  | some p =>
    rw [hp] at h
    simp only at h ⊢
    by_cases h1 : s.data.toList = []
    · rw [if_pos h1]
    · rw [if_neg h1] at h ⊢
      by_cases h2 : value_Text.f 1 t p.1 p.2 = some s
      · rw [if_pos h2] at h; cases h
      · rw [if_neg h2]
theorem text_any0 (k n : Int) (s : ByteArray) (l : -9223372036854775808 ≤ n) (u : n < 9223372036854775808) : ∃ r, value_Text.f 1 k n s = some r := by
  cases hb : fitB k n s with
  | true =>
    obtain ⟨r, h, _⟩ := writes_text k n s (fitP_of hb l u) 0
    exact ⟨r, h⟩
  | false => exact ⟨_, text_bad k n s hb⟩
theorem judge (k n : Int) (x s t : ByteArray) (b : Bool) (l : -9223372036854775808 ≤ n) (u : n < 9223372036854775808) (ht : value_Text.f 1 k n x = some t)
    (hc : (readV k s).2 = true → b = true ∧ (readV k s).1 = (n, x)) :
    (if b = true then (if t.toList = s.toList then (if s.toList = ([] : List UInt8) then (some (0, (⟨#[]⟩ : ByteArray), false)) else (some (n, x, true))) else (some (0, (⟨#[]⟩ : ByteArray), false))) else (some (0, (⟨#[]⟩ : ByteArray), false)))
      = some ((readV k s).1.1, (readV k s).1.2, (readV k s).2) := by
  have no : ¬ (b = true ∧ t.data.toList = s.data.toList ∧ s.data.toList ≠ []) → readV k s = ((0, ⟨#[]⟩), false) := by
    intro hn
    apply readV_false
    cases h : (readV k s).2 with
    | false => rfl
    | true =>
      exfalso
      obtain ⟨h1, h2, h3⟩ := readV_true k s h
      obtain ⟨hb, hv⟩ := hc h
      rw [hv] at h2
      rw [ht] at h2
      exact hn ⟨hb, by rw [Option.some.inj h2], h1⟩
  rw [toList_eq, toList_eq]
  by_cases hb : b = true
  · rw [if_pos hb]
    by_cases h1 : t.data.toList = s.data.toList
    · rw [if_pos h1]
      by_cases h2 : s.data.toList = []
      · rw [if_pos h2, no (fun h => h.2.2 h2)]
      · rw [if_neg h2]
        obtain rfl := toList_inj h1
        have hf : fitB k n x = true := by
          cases hf : fitB k n x with
          | true => rfl
          | false =>
            rw [text_bad k n x hf] at ht
            exact absurd (by rw [← Option.some.inj ht]) h2
        have h3 : 1 ≤ t.size := by
          have h4 : t.data.toList.length = t.size := by simp
          have : t.data.toList.length ≠ 0 := fun e => h2 (List.length_eq_zero_iff.1 e)
          omega
        rw [read_text (fitP_of hf l u) ht h3]
    · rw [if_neg h1, no (fun h => h1 h.2.1)]
  · rw [if_neg hb, no (fun h => hb h.1)]
theorem rtext_of (m : Nat) (k n : Int) (s : ByteArray) (l : -9223372036854775808 ≤ n) (u : n < 9223372036854775808) : PC.thresherref03_Text.f m k n s = value_Text.f 1 k n s := by
  unfold PC.thresherref03_Text.f; rw [if_pos ⟨l, u⟩]
theorem w64_rng (x : Int) : -9223372036854775808 ≤ wrap64 x ∧ wrap64 x < 9223372036854775808 := by unfold wrap64; omega
theorem read_eq (k : Int) (s : ByteArray) (hs : s.size ≤ 200) : PC.thresherref03_Read.f 1000 k s = some ((readV k s).1.1, (readV k s).1.2, (readV k s).2) := by
  unfold PC.thresherref03_Read.f
  by_cases h3 : k = 3
  · subst h3
    rw [if_pos rfl]
    obtain ⟨x, b, hx⟩ := text_tot0 s (by omega) (s.size) 1000 1 [] (by omega) (by omega) (by simp) (by omega)
    have hx' : PC.thresherref03_text.f 1000 s = some (0, x, b) := hx
    rw [hx']
    simp only [Option.bind_some]
    obtain ⟨t, ht⟩ := text_any0 3 0 x (by omega) (by omega)
    rw [rtext_of _ _ _ _ (by omega) (by omega), ht]
    simp only [Option.bind_some]
    refine judge 3 0 x s t b (by omega) (by omega) ht (fun h => ?_)
    obtain ⟨h1, h2, h4⟩ := readV_true 3 s h
    generalize hv : (readV 3 s).1 = v at h2 h4 ⊢
    obtain ⟨n, y⟩ := v
    simp only at h2 h4
    obtain ⟨hn, hy⟩ := h4.2.1 rfl
    subst hn
    have hr2 : s = ⟨(qL y.data.toList ++ [34]).toArray⟩ := by
      have hf := fits_of h4 0
      simp only [value_Text.f, hf, Option.bind_some, if_true, value_quoted.f] at h2
      rw [if_neg (by decide), if_neg (by decide), if_pos hy] at h2
      exact (Option.some.inj h2).symm
    have hyl : y.data.toList.length = y.size := by simp
    have := text_full (qL y.data.toList ++ [34]) (by have := qL_len y.data.toList; simp; omega) y.data.toList 1000 1 [] (by simp [qL]) (by simp) (by omega)
    rw [hr2] at hx
    have e := Option.some.inj (hx.symm.trans this)
    have e1 : x = strOfNums ([] ++ List.map (fun c => (c.toNat : Int)) y.data.toList) := congrArg (fun q => q.2.1) e
    have e2 : b = true := congrArg (fun q => q.2.2) e
    refine ⟨e2, ?_⟩
    rw [e1]
    congr 1
    apply toList_inj
    rw [strOfNums_data]
    have bk : ∀ l : List UInt8, l = List.map ((fun n : Int => UInt8.ofNat n.toNat) ∘ fun c : UInt8 => (c.toNat : Int)) l := by
      intro l
      induction l with
      | nil => rfl
      | cons c l ih => rw [List.map_cons, ← ih]; simp
    rw [List.nil_append, List.map_map]
    exact bk _
  · rw [if_neg h3]
    -- what is read off a text of digits
    have go : ∀ (n : Int) (b : Bool) (m : Nat), -9223372036854775808 ≤ n → n < 9223372036854775808 → ((readV k s).2 = true → b = true ∧ (readV k s).1.1 = n) →
        ((PC.thresherref03_Text.f m k n (⟨#[]⟩ : ByteArray)).bind fun t154 => (if b = true then (if t154.toList = s.toList then (if s.toList = ([] : List UInt8) then (some (0, (⟨#[]⟩ : ByteArray), false)) else (some (n, (⟨#[]⟩ : ByteArray), true))) else (some (0, (⟨#[]⟩ : ByteArray), false))) else (some (0, (⟨#[]⟩ : ByteArray), false))))
          = some ((readV k s).1.1, (readV k s).1.2, (readV k s).2) := by
      intro n b m l u hc
      obtain ⟨t, ht⟩ := text_any0 k n ⟨#[]⟩ l u
      rw [rtext_of _ _ _ _ l u, ht]
      simp only [Option.bind_some]
      refine judge k n ⟨#[]⟩ s t b l u ht (fun h => ?_)
      obtain ⟨h1, h2, h4⟩ := readV_true k s h
      obtain ⟨hb, hn⟩ := hc h
      exact ⟨hb, Prod.ext hn (h4.2.2.1 h3)⟩
    -- what a text that is accepted looks like
    have acc : (readV k s).2 = true → (∃ m : Nat, k = 1 ∧ 0 < m ∧ m ≤ 9223372036854775808 ∧ (readV k s).1.1 = -(m : Int) ∧ s.data.toList = 45 :: Lib.decDigits m) ∨
        (∃ m : Nat, m < 18446744073709551616 ∧ (readV k s).1.1 = wrap64 (m : Int) ∧ s.data.toList = Lib.decDigits m) := by
      intro h
      obtain ⟨h1, h2, h4⟩ := readV_true k s h
      have h5 := h4.2.2.1 h3
      generalize (readV k s).1.1 = n at h2 h4 ⊢
      generalize (readV k s).1.2 = y at h2 h4 h5
      subst h5
      rcases h4.1 with rfl | rfl | rfl
      · rw [text_i h4 0] at h2
        have h6 := Option.some.inj h2
        have l := h4.2.2.2.1
        have u := h4.2.2.2.2
        by_cases hn : n < 0
        · obtain ⟨m, rfl⟩ : ∃ m : Nat, n = -(m : Int) := ⟨n.natAbs, by omega⟩
          refine Or.inl ⟨m, rfl, by omega, by omega, rfl, ?_⟩
          rw [← h6, Lib.itoa_neg m (by omega)]
        · obtain ⟨m, rfl⟩ := Int.eq_ofNat_of_zero_le (by omega : 0 ≤ n)
          refine Or.inr ⟨m, by omega, ?_, ?_⟩
          · rw [w64 (by omega) (by omega)]
          · rw [← h6, Lib.itoa_nonneg]
      · rw [text_u h4 0] at h2
        have h6 := Option.some.inj h2
        have hu := u_rng n
        refine Or.inr ⟨(IntKind.u64.wrap n).toNat, by omega, ?_, by rw [← h6]⟩
        rw [wrap_back h4.2.2.2.1 h4.2.2.2.2]
      · exact absurd rfl h3
    have hj : ∀ b0 : Bool, (b0 = true → 1 ≤ s.size) → (b0 = true ↔ s.data.toList.head? = some 45) → PC.thresherref03_Read.j0 1000 k s b0 = some ((readV k s).1.1, (readV k s).1.2, (readV k s).2) := by
      intro b0 hz hb0
      rw [PC.thresherref03_Read.j0]
      cases b0 with
      | true =>
        have hz1 := hz rfl
        rw [if_pos rfl, if_pos (by omega)]
        obtain ⟨r, b, hr, r0, r1⟩ := whole_tot (s.extract 1 s.size) 999 (by omega)
        rw [hr]
        simp only [Option.bind_some]
        refine go _ b 999 (w64_rng _).1 (w64_rng _).2 (fun h => ?_)
        rcases acc h with ⟨m, rfl, hm0, hm, hv, hd⟩ | ⟨m, hm, hv, hd⟩
        · have he : (s.extract 1 s.size).data.toList = Lib.decDigits m := by rw [ext_from, hd]; rfl
          rw [whole_dec _ m (by omega) he 999 (by omega)] at hr
          have e := Option.some.inj hr
          have e1 : (m : Int) = r := congrArg Prod.fst e
          have e2 : true = b := congrArg Prod.snd e
          refine ⟨e2.symm, ?_⟩
          rw [hv, ← e1, IntKind.wrap_u64]
          unfold wrap64; omega
        · exfalso
          have h45 := hb0.1 rfl
          rw [hd] at h45
          cases hdd : Lib.decDigits m with
          | nil => exact dec_ne m hdd
          | cons c r' =>
            rw [hdd] at h45
            have hc := dec_digits m c (by rw [hdd]; exact List.mem_cons_self ..)
            simp at h45
            rw [h45] at hc
            exact absurd hc.1 (by decide)
      | false =>
        rw [if_neg (by decide)]
        obtain ⟨r, b, hr, r0, r1⟩ := whole_tot s 999 (by omega)
        rw [hr]
        simp only [Option.bind_some]
        refine go _ b 999 (w64_rng _).1 (w64_rng _).2 (fun h => ?_)
        rcases acc h with ⟨m, rfl, hm0, hm, hv, hd⟩ | ⟨m, hm, hv, hd⟩
        · exact absurd (hb0.2 (by rw [hd]; rfl)) (by decide)
        · rw [whole_dec _ m (by omega) hd 999 (by omega)] at hr
          have e := Option.some.inj hr
          have e1 : (m : Int) = r := congrArg Prod.fst e
          have e2 : true = b := congrArg Prod.snd e
          exact ⟨e2.symm, by rw [hv, e1]⟩
    have hs2 : s = ⟨s.data.toList.toArray⟩ := toList_inj rfl
    have hl : s.data.toList.length = s.size := by simp
    by_cases hz : (s.size : Int) > 0
    · rw [if_pos hz, if_pos hz]
      refine hj _ (fun _ => by omega) ?_
      have hb : bt s 0 = ((s.data.toList[0]'(by omega)).toNat : Int) := by
        have := bt_mk s.data.toList 0 (by omega)
        rw [← hs2] at this
        exact this
      obtain ⟨c, r, hd⟩ : ∃ c r, s.data.toList = c :: r := by
        cases hd : s.data.toList with
        | nil => rw [hd] at hl; simp at hl; omega
        | cons c r => exact ⟨c, r, rfl⟩
      have hc0 : s.data.toList[0]'(by omega) = c := by simp only [hd, List.getElem_cons_zero]
      rw [hb, hc0, hd]
      simp only [List.head?_cons, Option.some.injEq, beq_iff_eq]
      constructor
      · intro h
        apply UInt8.toNat_inj.1
        have : c.toNat = 45 := by omega
        rw [this]; rfl
      · rintro rfl; rfl
    · rw [if_neg hz]
      refine hj _ (fun h => by cases h) ?_
      have : s.data.toList = [] := List.length_eq_zero_iff.1 (by omega)
      rw [this]; simp
end Go.Proofs.YtohbpgdhpfmlgaaDoor.PA
namespace Go.Proofs.YtohbpgdhpfmlgaaDoor.PA
set_option linter.unusedVariables false
set_option linter.unusedSimpArgs false
open Go.Lib Go.RowKit Go.Proofs.YtohbpgdhpfmlgaaDoorW.PrintWords Go.Proofs.YtohbpgdhpfmlgaaDoorW.PrintLast
theorem texts_l (a b : List UInt8) (ha : a.length ≤ 100) (hb : b.length ≤ 100) : ∀ (d k i : Nat), a.length ≤ i + d → i ≤ a.length → i ≤ b.length → 2 * d + 2 ≤ k →
    PC.thresherref03_texts.l0 k ⟨a.toArray⟩ ⟨b.toArray⟩ (i : Int) = some (cB (a.drop i) (b.drop i)) := by
  intro d
  induction d with
  | zero =>
    intro k i hd h1 h2 hk
    obtain ⟨k, rfl⟩ : ∃ q, k = q + 2 := ⟨k - 2, by omega⟩
    rw [PC.thresherref03_texts.l0, size_mk, size_mk, if_neg (by omega), PC.thresherref03_texts.j1, if_neg (by decide), size_mk, size_mk]
    have e : a.drop i = [] := List.drop_eq_nil_of_le (by omega)
    rw [e]
    by_cases h : i < b.length
    · rw [List.drop_eq_getElem_cons h, if_pos (by omega)]; rfl
    · rw [List.drop_eq_nil_of_le (by omega), if_neg (by omega), if_neg (by omega)]; rfl
  | succ d ih =>
    intro k i hd h1 h2 hk
    obtain ⟨k, rfl⟩ : ∃ q, k = q + 2 := ⟨k - 2, by omega⟩
    rw [PC.thresherref03_texts.l0, size_mk, size_mk]
    by_cases h3 : i < a.length
    · rw [if_pos (by omega), PC.thresherref03_texts.j1, size_mk, size_mk]
      by_cases h4 : i < b.length
      · rw [if_pos (decide_eq_true (by omega)), if_pos (by omega), if_pos (by omega), if_pos (by omega), bt_mk a i h3, bt_mk b i h4, List.drop_eq_getElem_cons h3, List.drop_eq_getElem_cons h4]
        show _ = some (Lib.compareBytes (a[i] :: a.drop (i + 1)) (b[i] :: b.drop (i + 1)))
        rw [Lib.compareBytes]
        by_cases h5 : a[i] < b[i]
        · rw [if_pos (by have := UInt8.lt_iff_toNat_lt.1 h5; omega), if_pos h5]
        · have h5' : ¬ a[i].toNat < b[i].toNat := fun h => h5 (UInt8.lt_iff_toNat_lt.2 h)
          rw [if_neg (by omega), if_neg h5]
          by_cases h6 : b[i] < a[i]
          · rw [if_pos (by have := UInt8.lt_iff_toNat_lt.1 h6; omega), if_pos h6]
          · have h6' : ¬ b[i].toNat < a[i].toNat := fun h => h6 (UInt8.lt_iff_toNat_lt.2 h)
            rw [if_neg (by omega), if_neg h6, w64 (x := (i : Int) + 1) (by omega) (by omega), show ((i : Int) + 1) = ((i + 1 : Nat) : Int) by omega]
            exact ih k (i + 1) (by omega) (by omega) (by omega) (by omega)
      · rw [if_neg (by simp; omega), if_neg (by omega), if_pos (by omega), List.drop_eq_getElem_cons h3, (List.drop_eq_nil_of_le (by omega) : b.drop i = [])]
        rfl
    · rw [if_neg (by omega), PC.thresherref03_texts.j1, if_neg (by decide), size_mk, size_mk]
      have e : a.drop i = [] := List.drop_eq_nil_of_le (by omega)
      rw [e]
      by_cases h : i < b.length
      · rw [List.drop_eq_getElem_cons h, if_pos (by omega)]; rfl
      · rw [List.drop_eq_nil_of_le (by omega), if_neg (by omega), if_neg (by omega)]; rfl
theorem texts_of (s s' : ByteArray) (h : s.size ≤ 100) (h' : s'.size ≤ 100) (k : Nat) (hk : 300 ≤ k) : PC.thresherref03_texts.f k s s' = some (cB s.data.toList s'.data.toList) := by
  have hl : s.data.toList.length = s.size := by simp
  have hl' : s'.data.toList.length = s'.size := by simp
  have := texts_l s.data.toList s'.data.toList (by omega) (by omega) s.data.toList.length k 0 (by omega) (by omega) (by omega) (by omega)
  exact this
/-- What both Compares tell. -/
def cmpV (k n : Int) (s : ByteArray) (n' : Int) (s' : ByteArray) : Int := if fitB k n s && fitB k n' s' then cV k n s n' s' else 0
def addVN (k n : Int) (s : ByteArray) (n' : Int) (s' : ByteArray) : Int := if fitB k n s && fitB k n' s' then aN k n n' else 0
def addVS (k n : Int) (s : ByteArray) (n' : Int) (s' : ByteArray) : ByteArray := if fitB k n s && fitB k n' s' then aS k s' else ⟨#[]⟩
theorem cmp_b (k n : Int) (s : ByteArray) (n' : Int) (s' : ByteArray) (l : -9223372036854775808 ≤ n) (u : n < 9223372036854775808) (l' : -9223372036854775808 ≤ n') (u' : n' < 9223372036854775808) :
    value_Compare.f 1 k n s n' s' = some (cmpV k n s n' s') := by
  unfold cmpV
  cases h : fitB k n s with
  | false =>
    rw [if_neg (by simp)]
    simp only [value_Compare.f, fits_b k n s 0, h, Option.bind_some, value_Compare.j0]
    rfl
  | true =>
    cases h' : fitB k n' s' with
    | false =>
      rw [if_neg (by simp)]
      simp only [value_Compare.f, fits_b k n s 0, fits_b k n' s' 0, h, h', Option.bind_some, value_Compare.j0]
      rfl
    | true =>
      rw [if_pos (by simp)]
      exact cmp_of (fitP_of h l u) (fitP_of h' l' u') 0
theorem add_b (k n : Int) (s : ByteArray) (n' : Int) (s' : ByteArray) (l : -9223372036854775808 ≤ n) (u : n < 9223372036854775808) (l' : -9223372036854775808 ≤ n') (u' : n' < 9223372036854775808) :
    value_Add.f 1 k n s n' s' = some (addVN k n s n' s', addVS k n s n' s') := by
  unfold addVN addVS
  cases h : fitB k n s with
  | false =>
    rw [if_neg (by simp), if_neg (by simp)]
    simp only [value_Add.f, fits_b k n s 0, h, Option.bind_some, value_Add.j0]
    rfl
  | true =>
    cases h' : fitB k n' s' with
    | false =>
      rw [if_neg (by simp), if_neg (by simp)]
      simp only [value_Add.f, fits_b k n s 0, fits_b k n' s' 0, h, h', Option.bind_some, value_Add.j0]
      rfl
    | true =>
      rw [if_pos (by simp), if_pos (by simp)]
      simp only [value_Add.f, fits_b k n s 0, fits_b k n' s' 0, h, h', Option.bind_some, value_Add.j0, aN, aS]
      by_cases h3 : k = 3
      · subst h3
        obtain ⟨hn, _⟩ := (fitP_of h' l' u').2.1 rfl
        simp
      · simp [h3]
theorem both_b (k n : Int) (s : ByteArray) (n' : Int) (s' : ByteArray) (m : Nat) : PC.thresherref03_both.f (m + 1) k n s n' s' = some (fitB k n s && fitB k n' s') := by
  simp only [PC.thresherref03_both.f, rfits_b k n s m, rfits_b k n' s' m, Option.bind_some]
  cases fitB k n s <;> simp
theorem rcmp_b (k n : Int) (s : ByteArray) (n' : Int) (s' : ByteArray) (l : -9223372036854775808 ≤ n) (u : n < 9223372036854775808) (l' : -9223372036854775808 ≤ n') (u' : n' < 9223372036854775808) :
    PC.thresherref03_Compare.f 1000 k n s n' s' = some (cmpV k n s n' s') := by
  unfold PC.thresherref03_Compare.f cmpV
  rw [both_b k n s n' s' 999]
  simp only [Option.bind_some]
  by_cases hf : (fitB k n s && fitB k n' s') = true
  · rw [if_pos hf, if_pos hf]
    have hf' : fitB k n s = true ∧ fitB k n' s' = true := by simpa using hf
    have p := fitP_of hf'.1 l u
    have p' := fitP_of hf'.2 l' u'
    have j : ∀ a b : Int, PC.thresherref03_Compare.j0 1000 (decide (a < b)) (decide (a > b)) = some (c3 a b) := by
      intro a b
      rw [PC.thresherref03_Compare.j0]
      unfold c3
      by_cases h1 : a < b
      · rw [if_pos (decide_eq_true h1), if_pos h1]
      · rw [if_neg (by simpa using h1), if_neg h1]
        by_cases h2 : a > b
        · rw [if_pos (decide_eq_true h2), if_pos h2]
        · rw [if_neg (by simpa using h2), if_neg h2]
    unfold cV
    rcases p.1 with rfl | rfl | rfl
    · rw [if_neg (by decide), if_neg (by decide), if_neg (by decide), if_neg (by decide)]
      exact j n n'
    · rw [if_pos rfl, if_neg (show ¬ ((2 : Int) = 3) by decide), if_pos (show (2 : Int) = 2 from rfl)]
      have hw : ∀ x : Int, -9223372036854775808 ≤ x → x < 9223372036854775808 → IntKind.u64.wrap x = if x < 0 then x + 18446744073709551616 else x := by
        intro x h1 h2
        rw [IntKind.wrap_u64]; split <;> omega
      by_cases h1 : ((decide (n < 0)) != (decide (n' < 0))) = true
      · rw [if_pos h1, PC.thresherref03_Compare.j0]
        unfold c3
        rw [hw n l u, hw n' l' u']
        by_cases h2 : n < 0
        · by_cases h3 : n' < 0
          · simp [h2, h3] at h1
          · rw [if_neg (by simpa using h3), if_pos (decide_eq_true h2), if_pos h2, if_neg h3, if_neg (by omega), if_pos (by omega)]
        · by_cases h3 : n' < 0
          · rw [if_pos (decide_eq_true h3), if_neg h2, if_pos h3, if_pos (by omega)]
          · simp [h2, h3] at h1
      · rw [if_neg h1, j]
        unfold c3
        rw [hw n l u, hw n' l' u']
        by_cases h2 : n < 0
        · by_cases h3 : n' < 0
          · rw [if_pos h2, if_pos h3]
            congr 1
            split <;> split <;> (try split) <;> (try split) <;> omega
          · simp [h2, h3] at h1
        · by_cases h3 : n' < 0
          · simp [h2, h3] at h1
          · rw [if_neg h2, if_neg h3]
    · rw [if_neg (by decide), if_pos rfl, if_pos rfl]
      have q := p.2.1 rfl
      have q' := p'.2.1 rfl
      rw [texts_of s s' (by omega) (by omega) 1000 (by omega)]
      rfl
  · rw [if_neg hf, if_neg hf]
theorem radd_b (k n : Int) (s : ByteArray) (n' : Int) (s' : ByteArray) : PC.thresherref03_Add.f 1000 k n s n' s' = some (addVN k n s n' s', addVS k n s n' s') := by
  unfold PC.thresherref03_Add.f addVN addVS
  rw [both_b k n s n' s' 999]
  simp only [Option.bind_some]
  by_cases hf : (fitB k n s && fitB k n' s') = true
  · rw [if_pos hf, if_pos hf, if_pos hf]
    unfold aN aS
    by_cases h3 : k = 3
    · rw [if_pos h3, if_pos h3, if_pos h3]
    · rw [if_neg h3, if_neg h3, if_neg h3]
  · rw [if_neg hf, if_neg hf, if_neg hf]
def cut200 (s : ByteArray) : ByteArray := if (s.size : Int) > 200 then s.extract 0 200 else s
theorem short_of (s : ByteArray) : PC.thresherlaw03_short.f s = some (cut200 s) ∧ (cut200 s).size ≤ 200 := by
  unfold PC.thresherlaw03_short.f cut200
  by_cases h : (s.size : Int) > 200
  · rw [if_pos h, if_pos (by decide), if_pos (by omega), if_pos h]
    exact ⟨rfl, by rw [ByteArray.size_extract]; omega⟩
  · rw [if_neg h, if_neg h]
    exact ⟨rfl, by omega⟩
end Go.Proofs.YtohbpgdhpfmlgaaDoor.PA
namespace Go.Proofs.YtohbpgdhpfmlgaaDoor.PA
set_option linter.unusedVariables false
set_option linter.unusedSimpArgs false
open Go.Lib Go.RowKit Go.Proofs.YtohbpgdhpfmlgaaDoorW.PrintWords Go.Proofs.YtohbpgdhpfmlgaaDoorW.PrintLast Go.Proofs.YtohbpgdhpfmlgaaDoorW.PrintMore
theorem ca2 {w W : World} {l : List (Nat × Array Value × TypeId)} {g1 g2 : Nat} {i j : Nat} {a0 b0 : Int} {a1 b1 : ByteArray} (hi : l[i]? = some (g1, #[.int .i64 a0, .string a1], 23)) (hj : l[j]? = some (g2, #[.int .i64 b0, .string b1], 23)) (h : ST w W l) :
    W.cell? ⟨g1, 0, none⟩ = some (.int .i64 a0) ∧ W.cell? ⟨g1, 1, none⟩ = some (.string a1) ∧ W.cell? ⟨g2, 0, none⟩ = some (.int .i64 b0) ∧ W.cell? ⟨g2, 1, none⟩ = some (.string b1) :=
  ⟨h.cell hi 0, h.cell hi 1, h.cell hj 0, h.cell hj 1⟩
theorem ca3 {w W : World} {l : List (Nat × Array Value × TypeId)} {g1 g2 g3 : Nat} {i j k : Nat} {a0 b0 c0 : Int} {a1 b1 c1 : ByteArray} (hi : l[i]? = some (g1, #[.int .i64 a0, .string a1], 23)) (hj : l[j]? = some (g2, #[.int .i64 b0, .string b1], 23)) (hk : l[k]? = some (g3, #[.int .i64 c0, .string c1], 23)) (h : ST w W l) :
    W.cell? ⟨g1, 0, none⟩ = some (.int .i64 a0) ∧ W.cell? ⟨g1, 1, none⟩ = some (.string a1) ∧ W.cell? ⟨g2, 0, none⟩ = some (.int .i64 b0) ∧ W.cell? ⟨g2, 1, none⟩ = some (.string b1) ∧ W.cell? ⟨g3, 0, none⟩ = some (.int .i64 c0) ∧ W.cell? ⟨g3, 1, none⟩ = some (.string c1) :=
  ⟨h.cell hi 0, h.cell hi 1, h.cell hj 0, h.cell hj 1, h.cell hk 0, h.cell hk 1⟩
def ValueAll.T7 : Bool × List (List Nat × List Nat) := (true, [([], []), ([], []), ([0, 1], [0, 1]), ([], []), ([], []), ([3, 4, 2], [3, 4]), ([2, 5], [2, 5]), ([6, 5], [6]), ([7], [7]), ([7], [7]), ([7], [7]), ([8, 9, 10, 7, 7], [7, 8, 9, 10]), ([7], [7]), ([7], [7]), ([7], [7]), ([12, 13, 14, 11, 7], [7, 12, 13, 14]), ([11, 15, 7], [7, 11, 15]), ([7, 16], [7, 16]), ([17, 15], [17]), ([18], [18]), ([18], [18]), ([18], [18]), ([19, 20, 21, 18, 18], [18, 19, 20, 21]), ([18], [18]), ([18], [18]), ([18], [18]), ([23, 24, 25, 22, 18], [18, 23, 24, 25]), ([22, 26, 18], [18, 22, 26]), ([18, 27], [18, 27]), ([28, 26, 0, 1, 2, 3, 4, 5, 6, 7, 8, 9, 10, 11, 12, 13, 14, 15, 16, 17, 18, 19, 20, 21, 22, 23, 24, 25, 26, 27, 28], [28])])
def ValueAll.B7 : List Nat := [0, 0, 3, 0, 0, 31, 63, 127, 255, 255, 255, 2047, 255, 255, 255, 32767, 65535, 131071, 262143, 524287, 524287, 524287, 4194303, 524287, 524287, 524287, 67108863, 134217727, 268435455, 536870911]
theorem ValueAll.tab7 : rtab .any (opsOf Tryd.f8 7) = ValueAll.T7 := by kernel_rfl
theorem ValueAll.bits7 : waitsOk ValueAll.T7.2 ValueAll.B7 = true := by kernel_rfl
def ValueAll.T8 : Bool × List (List Nat × List Nat) := (true, [([], []), ([0], [0]), ([1], [1]), ([1, 2], [1, 2]), ([3, 1], [3]), ([4], [4]), ([4], [4]), ([5, 6, 4, 4], [4, 5, 6]), ([4], [4]), ([4], [4]), ([8, 9, 7, 4], [4, 8, 9]), ([7, 10, 4], [4, 7, 10]), ([4, 11], [4, 11]), ([12, 10], [12]), ([13], [13]), ([13], [13]), ([14, 15, 13], [13, 14, 15]), ([13, 16], [13, 16]), ([17, 13], [17]), ([18], [18]), ([18], [18]), ([19, 20, 18], [18, 19, 20]), ([18, 21], [18, 21]), ([22, 18, 0, 1, 2, 3, 4, 5, 6, 7, 8, 9, 10, 11, 12, 13, 14, 15, 16, 17, 18, 19, 20, 21, 22], [22])])
def ValueAll.B8 : List Nat := [0, 1, 3, 7, 15, 31, 31, 127, 31, 31, 1023, 2047, 4095, 8191, 16383, 16383, 65535, 131071, 262143, 524287, 524287, 2097151, 4194303, 8388607]
theorem ValueAll.tab8 : rtab .any (opsOf Tryd.f8 8) = ValueAll.T8 := by kernel_rfl
theorem ValueAll.bits8 : waitsOk ValueAll.T8.2 ValueAll.B8 = true := by kernel_rfl
attribute [local go_sem high] eqA23
set_option maxHeartbeats 8000000 in
set_option maxRecDepth 100000 in
theorem ValueAll.works (k n0 n1 : Int) (s0 s1 s2 : ByteArray) (w : World) (HT : Aside0 (LE w))
    (hl0 : -9223372036854775808 ≤ n0) (hu0 : n0 < 9223372036854775808) (hl1 : -9223372036854775808 ≤ n1) (hu1 : n1 < 9223372036854775808) :
    Calls Tryd.prog 8 #[.int .i64 k, .agg #[.int .i64 n0, .string s0, .int .i64 n1, .string s1], .string s2] w fun e w' => e = .returned (.bool true) ∧ Below w.heap.size w w' := by
  obtain ⟨hsh, hs2⟩ := short_of s2
  have SH := Aside0.mk hsh
  have C0 := Aside0.mk (some_of n0 s0)
  have C1 := Aside0.mk (some_of n1 s1)
  have hrd := read_any k (cut200 s2) (by omega) (text_tot k (cut200 s2))
  have hrr := read_eq k (cut200 s2) hs2
  obtain ⟨r, hra⟩ := text_any0 k n0 (cut100 s0) hl0 hu0
  have TA := Aside0.mk hra
  have TR := Aside0.mk (fun W => refText k n0 (cut100 s0) r hra hl0 hu0 W)
  have FA := Aside0.mk (fun W => value_Fits.calls 1 k n0 (cut100 s0) _ W (fits_b k n0 (cut100 s0) 0))
  have FR := Aside0.mk (fun W => PC.thresherref03_Fits.calls 1 k n0 (cut100 s0) _ W (rfits_b k n0 (cut100 s0) 0))
  have CA := Aside0.mk (fun W => value_Compare.calls 1 k n0 (cut100 s0) n1 (cut100 s1) _ W (cmp_b k n0 (cut100 s0) n1 (cut100 s1) hl0 hu0 hl1 hu1))
  have CR := Aside0.mk (fun W => PC.thresherref03_Compare.calls 1000 k n0 (cut100 s0) n1 (cut100 s1) _ W (rcmp_b k n0 (cut100 s0) n1 (cut100 s1) hl0 hu0 hl1 hu1))
  have AA := Aside0.mk (fun W => value_Add.calls 1 k n0 (cut100 s0) n1 (cut100 s1) _ _ W (add_b k n0 (cut100 s0) n1 (cut100 s1) hl0 hu0 hl1 hu1))
  have AR := Aside0.mk (fun W => PC.thresherref03_Add.calls 1000 k n0 (cut100 s0) n1 (cut100 s1) _ _ W (radd_b k n0 (cut100 s0) n1 (cut100 s1)))
  clear hsh hs2 hra
  generalize fitB k n0 (cut100 s0) = fb at *
  generalize cmpV k n0 (cut100 s0) n1 (cut100 s1) = cv at *
  generalize addVN k n0 (cut100 s0) n1 (cut100 s1) = an at *
  generalize addVS k n0 (cut100 s0) n1 (cut100 s1) = as' at *
  generalize readV k (cut200 s2) = rv at *
  obtain ⟨⟨rn, rs⟩, rb⟩ := rv
  dsimp only at hrd hrr
  have HRD := Aside0.mk hrd
  have HRR := Aside0.mk (fun W => PC.thresherref03_Read.calls 1000 k (cut200 s2) rn rs rb W hrr)
  clear hrd hrr
  generalize cut100 s0 = c0 at *
  generalize cut100 s1 = c1 at *
  generalize cut200 s2 = c2 at *
  have S := Aside0.mk ((ST.start w).new #[.int .i64 n0, .string s0, .int .i64 n1, .string s1] 35)
  go_enter Tryd.func8, Tryd.ntmps8
  go_wp2_with fail
  refine (thresherlaw03_shown.calls 1 true _ ⟨(HT.out.step S.out.b).tab⟩ (shown_true 0)).mono ?_
  rintro e w1 ⟨rfl, hb⟩
  replace S := Aside0.mk ((S.out).step hb)
  clear hb
  have cx0 : (w1).cell? ⟨w.heap.size, 0, none⟩ = some (.int .i64 n0) := ST.cell (j := 0) S.out rfl 0
  have cx1 : (w1).cell? ⟨w.heap.size, 1, none⟩ = some (.string s0) := ST.cell (j := 0) S.out rfl 1
  go_wp2_with fail
  refine (PC.thresherlaw03_some.calls n0 s0 n0 c0 _ C0.out).mono ?_
  rintro e w2 ⟨rfl, hb⟩
  replace S := Aside0.mk ((S.out).step hb)
  clear hb
  clear cx0 cx1
  have cx0 : ((w2.alloc (.cells #[.int .i64 n0, .string c0] 23))).cell? ⟨w.heap.size, 2, none⟩ = some (.int .i64 n1) := ST.cell (j := 0) (S.out.alloc _) rfl 2
  have cx1 : ((w2.alloc (.cells #[.int .i64 n0, .string c0] 23))).cell? ⟨w.heap.size, 3, none⟩ = some (.string s1) := ST.cell (j := 0) (S.out.alloc _) rfl 3
  go_wp2_with fail
  refine (PC.thresherlaw03_some.calls n1 s1 n1 c1 _ C1.out).mono ?_
  rintro e w3 ⟨rfl, hb⟩
  replace S := Aside0.mk ((S.out.new #[.int .i64 n0, .string c0] 23).step hb)
  clear hb
  clear cx0 cx1
  go_wp2_with fail
  refine (Calls.below (PC.thresherlaw03_short.calls s2 c2 _ SH.out)).mono ?_
  rintro e w4 ⟨rfl, hb⟩
  replace S := Aside0.mk ((S.out.new #[.int .i64 n1, .string c1] 23).step hb)
  clear hb
  go_wp2_with fail
  refine (HRD.out _ ⟨HT.out.step S.out.b⟩).mono ?_
  rintro e w5 ⟨rfl, hb⟩
  replace S := Aside0.mk ((S.out).step hb)
  clear hb
  go_wp2_with fail
  refine (HRR.out _).mono ?_
  rintro e w6 ⟨rfl, hb⟩
  replace S := Aside0.mk ((S.out.new #[.int .i64 rn, .string rs] 23).step hb)
  clear hb
  replace S := Aside0.mk (S.out.new #[.int .i64 rn, .string rs] 23)
  go_upto_region 7 with fail
  go_cut [14] (fun v14 wc => v14 = .bool true ∧ Aside0 (ST w wc [(w.heap.size, #[.int .i64 n0, .string s0, .int .i64 n1, .string s1], 35), (w2.heap.size, #[.int .i64 n0, .string c0], 23), (w3.heap.size, #[.int .i64 n1, .string c1], 23), (w5.heap.size, #[.int .i64 rn, .string rs], 23), (w6.heap.size, #[.int .i64 rn, .string rs], 23)]))
  case first =>
    refine start_ (n := 30) (S := fun w' => w'.cell? ⟨w2.heap.size, 0, none⟩ = some (.int .i64 n0) ∧ w'.cell? ⟨w2.heap.size, 1, none⟩ = some (.string c0) ∧ w'.cell? ⟨w3.heap.size, 0, none⟩ = some (.int .i64 n1) ∧ w'.cell? ⟨w3.heap.size, 1, none⟩ = some (.string c1)) (ds := []) #[false, false, false, false, false, false, false, false, false, false, false, false, false, false, false, false, false, false, false, false, false, false, false, false, false, false, false, false, false, false] (by kernel_rfl) rfl rfl (ca2 (i := 1) (j := 2) rfl rfl S.out.drew) (fun hHeld => ?_); refine with_tabW ValueAll.tab7 ValueAll.bits7 (fun HT_ HW_ => ?_)
    refine pure_ (i := 0) (N := (some 36)) (v := ?_) (a' := ?_) #[true, false, false, false, false, false, false, false, false, false, false, false, false, false, false, false, false, false, false, false, false, false, false, false, false, false, false, false, false, false] rfl rfl (any_of HT_.out (by kernel_rfl)) (fun _ _ _ h => h) (Or.inl ⟨by rfl, ?_⟩) ?_ ?_
    rotate_left
    · intro w'
      go_simp
      with_reducible rfl
    rotate_left
    · simp only [Act.put, List.setIfInBounds_toArray, List.set_cons_zero, List.set_cons_succ, i64_w, i32_w]
      rfl
    refine take_ (i := 1) (N := (some 37)) (v := ?_) (a' := ?_) #[true, true, false, false, false, false, false, false, false, false, false, false, false, false, false, false, false, false, false, false, false, false, false, false, false, false, false, false, false, false] rfl rfl (take_ofW HT_.out HW_.out (by kernel_rfl)) (fun _ _ _ h => h) (Or.inl ⟨by rfl, ?_⟩) hHeld ?_ ?_
    rotate_left
    · rintro w' ⟨s0, s1, s2, s3⟩
      go_simp
      with_reducible rfl
    rotate_left
    · simp only [Act.put, List.setIfInBounds_toArray, List.set_cons_zero, List.set_cons_succ, i64_w, i32_w]
      rfl
    refine pure_ (i := 3) (N := (some 39)) (v := ?_) (a' := ?_) #[true, true, false, true, false, false, false, false, false, false, false, false, false, false, false, false, false, false, false, false, false, false, false, false, false, false, false, false, false, false] rfl rfl (any_of HT_.out (by kernel_rfl)) (fun _ _ _ h => h) (Or.inl ⟨by rfl, ?_⟩) ?_ ?_
    rotate_left
    · intro w'
      go_simp
      with_reducible rfl
    rotate_left
    · simp only [Act.put, List.setIfInBounds_toArray, List.set_cons_zero, List.set_cons_succ, i64_w, i32_w]
      rfl
    refine take_ (i := 4) (N := (some 40)) (v := ?_) (a' := ?_) #[true, true, false, true, true, false, false, false, false, false, false, false, false, false, false, false, false, false, false, false, false, false, false, false, false, false, false, false, false, false] rfl rfl (take_ofW HT_.out HW_.out (by kernel_rfl)) (fun _ _ _ h => h) (Or.inl ⟨by rfl, ?_⟩) hHeld ?_ ?_
    rotate_left
    · rintro w' ⟨s0, s1, s2, s3⟩
      go_simp
      with_reducible rfl
    rotate_left
    · simp only [Act.put, List.setIfInBounds_toArray, List.set_cons_zero, List.set_cons_succ, i64_w, i32_w]
      rfl
    refine one_ (i := 2) (N := (some 38)) #[true, true, true, true, true, false, false, false, false, false, false, false, false, false, false, false, false, false, false, false, false, false, false, false, false, false, false, false, false, false] rfl rfl (one_of HT_.out (by kernel_rfl)) (by decide) (fun K hK => ?_)
    refine goes_ Tryd.func17 (by kernel_rfl) rfl #[.int .i64 k, .agg #[.int .i64 n0, .string c0]] (by rfl) rfl rfl (by (try simp only [List.map_toArray, List.map_cons, List.map_nil]); first | done | rfl) ?_
    refine (FA.out _).mono ?_
    rintro e x1 ⟨rfl, h3⟩
    refine ⟨_, rfl, ?_⟩
    have S1 := Aside0.mk (ST.step S.out.drew h3)
    clear h3
    refine hK.out _ _ (ca2 (i := 1) (j := 2) rfl rfl S1.out) (fun hHeld => ?_)
    clear hK K
    refine norm_ (a' := ?_) ?_ ?_
    rotate_left
    · show Act.put _ (some 38) _ = _
      simp only [Act.put, List.setIfInBounds_toArray, List.set_cons_zero, List.set_cons_succ, i64_w, i32_w]
      rfl
    refine one_ (i := 5) (N := (some 41)) #[true, true, true, true, true, true, false, false, false, false, false, false, false, false, false, false, false, false, false, false, false, false, false, false, false, false, false, false, false, false] rfl rfl (one_of HT_.out (by kernel_rfl)) (by decide) (fun K hK => ?_)
    refine goes_ Tryd.func20 (by kernel_rfl) rfl #[.int .i64 k, .agg #[.int .i64 n0, .string c0]] (by rfl) rfl rfl (by (try simp only [List.map_toArray, List.map_cons, List.map_nil]); first | done | rfl) ?_
    refine (FR.out _).mono ?_
    rintro e x2 ⟨rfl, h3⟩
    refine ⟨_, rfl, ?_⟩
    have S2 := Aside0.mk (ST.step S1.out h3)
    clear h3
    refine hK.out _ _ (ca2 (i := 1) (j := 2) rfl rfl S2.out) (fun hHeld => ?_)
    clear hK K
    refine norm_ (a' := ?_) ?_ ?_
    rotate_left
    · show Act.put _ (some 41) _ = _
      simp only [Act.put, List.setIfInBounds_toArray, List.set_cons_zero, List.set_cons_succ, i64_w, i32_w]
      rfl
    refine pure_ (i := 6) (N := (some 42)) (v := ?_) (a' := ?_) #[true, true, true, true, true, true, true, false, false, false, false, false, false, false, false, false, false, false, false, false, false, false, false, false, false, false, false, false, false, false] rfl rfl (any_of HT_.out (by kernel_rfl)) (fun _ _ _ h => h) (Or.inl ⟨by rfl, ?_⟩) ?_ ?_
    rotate_left
    · intro w'
      go_simp
      with_reducible rfl
    rotate_left
    · simp only [Act.put, List.setIfInBounds_toArray, List.set_cons_zero, List.set_cons_succ, i64_w, i32_w]
      rfl
    refine pure_ (i := 7) (N := (some 43)) (v := ?_) (a' := ?_) #[true, true, true, true, true, true, true, true, false, false, false, false, false, false, false, false, false, false, false, false, false, false, false, false, false, false, false, false, false, false] rfl rfl (any_of HT_.out (by kernel_rfl)) (fun _ _ _ h => h) (Or.inl ⟨by rfl, ?_⟩) ?_ ?_
    rotate_left
    · intro w'
      go_simp
      with_reducible rfl
    rotate_left
    · simp only [Act.put, List.setIfInBounds_toArray, List.set_cons_zero, List.set_cons_succ, i64_w, i32_w]
      rfl
    refine pure_ (i := 8) (N := (some 44)) (v := ?_) (a' := ?_) #[true, true, true, true, true, true, true, true, true, false, false, false, false, false, false, false, false, false, false, false, false, false, false, false, false, false, false, false, false, false] rfl rfl (any_of HT_.out (by kernel_rfl)) (fun _ _ _ h => h) (Or.inl ⟨by rfl, ?_⟩) ?_ ?_
    rotate_left
    · intro w'
      go_simp
      with_reducible rfl
    rotate_left
    · simp only [Act.put, List.setIfInBounds_toArray, List.set_cons_zero, List.set_cons_succ, i64_w, i32_w]
      rfl
    refine take_ (i := 9) (N := (some 45)) (v := ?_) (a' := ?_) #[true, true, true, true, true, true, true, true, true, true, false, false, false, false, false, false, false, false, false, false, false, false, false, false, false, false, false, false, false, false] rfl rfl (take_ofW HT_.out HW_.out (by kernel_rfl)) (fun _ _ _ h => h) (Or.inl ⟨by rfl, ?_⟩) hHeld ?_ ?_
    rotate_left
    · rintro w' ⟨s0, s1, s2, s3⟩
      go_simp
      with_reducible rfl
    rotate_left
    · simp only [Act.put, List.setIfInBounds_toArray, List.set_cons_zero, List.set_cons_succ, i64_w, i32_w]
      rfl
    refine take_ (i := 10) (N := (some 46)) (v := ?_) (a' := ?_) #[true, true, true, true, true, true, true, true, true, true, true, false, false, false, false, false, false, false, false, false, false, false, false, false, false, false, false, false, false, false] rfl rfl (take_ofW HT_.out HW_.out (by kernel_rfl)) (fun _ _ _ h => h) (Or.inl ⟨by rfl, ?_⟩) hHeld ?_ ?_
    rotate_left
    · rintro w' ⟨s0, s1, s2, s3⟩
      go_simp
      with_reducible rfl
    rotate_left
    · simp only [Act.put, List.setIfInBounds_toArray, List.set_cons_zero, List.set_cons_succ, i64_w, i32_w]
      rfl
    refine pure_ (i := 12) (N := (some 48)) (v := ?_) (a' := ?_) #[true, true, true, true, true, true, true, true, true, true, true, false, true, false, false, false, false, false, false, false, false, false, false, false, false, false, false, false, false, false] rfl rfl (any_of HT_.out (by kernel_rfl)) (fun _ _ _ h => h) (Or.inl ⟨by rfl, ?_⟩) ?_ ?_
    rotate_left
    · intro w'
      go_simp
      with_reducible rfl
    rotate_left
    · simp only [Act.put, List.setIfInBounds_toArray, List.set_cons_zero, List.set_cons_succ, i64_w, i32_w]
      rfl
    refine take_ (i := 13) (N := (some 49)) (v := ?_) (a' := ?_) #[true, true, true, true, true, true, true, true, true, true, true, false, true, true, false, false, false, false, false, false, false, false, false, false, false, false, false, false, false, false] rfl rfl (take_ofW HT_.out HW_.out (by kernel_rfl)) (fun _ _ _ h => h) (Or.inl ⟨by rfl, ?_⟩) hHeld ?_ ?_
    rotate_left
    · rintro w' ⟨s0, s1, s2, s3⟩
      go_simp
      with_reducible rfl
    rotate_left
    · simp only [Act.put, List.setIfInBounds_toArray, List.set_cons_zero, List.set_cons_succ, i64_w, i32_w]
      rfl
    refine take_ (i := 14) (N := (some 50)) (v := ?_) (a' := ?_) #[true, true, true, true, true, true, true, true, true, true, true, false, true, true, true, false, false, false, false, false, false, false, false, false, false, false, false, false, false, false] rfl rfl (take_ofW HT_.out HW_.out (by kernel_rfl)) (fun _ _ _ h => h) (Or.inl ⟨by rfl, ?_⟩) hHeld ?_ ?_
    rotate_left
    · rintro w' ⟨s0, s1, s2, s3⟩
      go_simp
      with_reducible rfl
    rotate_left
    · simp only [Act.put, List.setIfInBounds_toArray, List.set_cons_zero, List.set_cons_succ, i64_w, i32_w]
      rfl
    refine one_ (i := 11) (N := (some 47)) #[true, true, true, true, true, true, true, true, true, true, true, true, true, true, true, false, false, false, false, false, false, false, false, false, false, false, false, false, false, false] rfl rfl (one_of HT_.out (by kernel_rfl)) (by decide) (fun K hK => ?_)
    refine goes_ Tryd.func12 (by kernel_rfl) rfl #[.int .i64 k, .agg #[.int .i64 n0, .string c0], .agg #[.int .i64 n1, .string c1]] (by rfl) rfl rfl (by (try simp only [List.map_toArray, List.map_cons, List.map_nil]); first | done | rfl) ?_
    refine (CA.out _).mono ?_
    rintro e x3 ⟨rfl, h3⟩
    refine ⟨_, rfl, ?_⟩
    have S3 := Aside0.mk (ST.step S2.out h3)
    clear h3
    refine hK.out _ _ (ca2 (i := 1) (j := 2) rfl rfl S3.out) (fun hHeld => ?_)
    clear hK K
    refine norm_ (a' := ?_) ?_ ?_
    rotate_left
    · show Act.put _ (some 47) _ = _
      simp only [Act.put, List.setIfInBounds_toArray, List.set_cons_zero, List.set_cons_succ, i64_w, i32_w]
      rfl
    refine one_ (i := 15) (N := (some 51)) #[true, true, true, true, true, true, true, true, true, true, true, true, true, true, true, true, false, false, false, false, false, false, false, false, false, false, false, false, false, false] rfl rfl (one_of HT_.out (by kernel_rfl)) (by decide) (fun K hK => ?_)
    refine goes_ Tryd.func21 (by kernel_rfl) rfl #[.int .i64 k, .agg #[.int .i64 n0, .string c0], .agg #[.int .i64 n1, .string c1]] (by rfl) rfl rfl (by (try simp only [List.map_toArray, List.map_cons, List.map_nil]); first | done | rfl) ?_
    refine (CR.out _).mono ?_
    rintro e x4 ⟨rfl, h3⟩
    refine ⟨_, rfl, ?_⟩
    have S4 := Aside0.mk (ST.step S3.out h3)
    clear h3
    refine hK.out _ _ (ca2 (i := 1) (j := 2) rfl rfl S4.out) (fun hHeld => ?_)
    clear hK K
    refine norm_ (a' := ?_) ?_ ?_
    rotate_left
    · show Act.put _ (some 51) _ = _
      simp only [Act.put, List.setIfInBounds_toArray, List.set_cons_zero, List.set_cons_succ, i64_w, i32_w]
      rfl
    refine pure_ (i := 16) (N := (some 52)) (v := ?_) (a' := ?_) #[true, true, true, true, true, true, true, true, true, true, true, true, true, true, true, true, true, false, false, false, false, false, false, false, false, false, false, false, false, false] rfl rfl (any_of HT_.out (by kernel_rfl)) (fun _ _ _ h => h) (Or.inl ⟨by rfl, ?_⟩) ?_ ?_
    rotate_left
    · intro w'
      go_simp
      with_reducible rfl
    rotate_left
    · simp only [Act.put, List.setIfInBounds_toArray, List.set_cons_zero, List.set_cons_succ, i64_w, i32_w]
      rfl
    refine pure_ (i := 17) (N := (some 53)) (v := ?_) (a' := ?_) #[true, true, true, true, true, true, true, true, true, true, true, true, true, true, true, true, true, true, false, false, false, false, false, false, false, false, false, false, false, false] rfl rfl (any_of HT_.out (by kernel_rfl)) (fun _ _ _ h => h) (Or.inl ⟨by rfl, ?_⟩) ?_ ?_
    rotate_left
    · intro w'
      go_simp
      with_reducible rfl
    rotate_left
    · simp only [Act.put, List.setIfInBounds_toArray, List.set_cons_zero, List.set_cons_succ, i64_w, i32_w]
      rfl
    refine pure_ (i := 18) (N := (some 54)) (v := ?_) (a' := ?_) #[true, true, true, true, true, true, true, true, true, true, true, true, true, true, true, true, true, true, true, false, false, false, false, false, false, false, false, false, false, false] rfl rfl (any_of HT_.out (by kernel_rfl)) (fun _ _ _ h => h) (Or.inl ⟨by rfl, ?_⟩) ?_ ?_
    rotate_left
    · intro w'
      go_simp
      with_reducible rfl
    rotate_left
    · simp only [Act.put, List.setIfInBounds_toArray, List.set_cons_zero, List.set_cons_succ, i64_w, i32_w]
      rfl
    refine pure_ (i := 19) (N := (some 55)) (v := ?_) (a' := ?_) #[true, true, true, true, true, true, true, true, true, true, true, true, true, true, true, true, true, true, true, true, false, false, false, false, false, false, false, false, false, false] rfl rfl (any_of HT_.out (by kernel_rfl)) (fun _ _ _ h => h) (Or.inl ⟨by rfl, ?_⟩) ?_ ?_
    rotate_left
    · intro w'
      go_simp
      with_reducible rfl
    rotate_left
    · simp only [Act.put, List.setIfInBounds_toArray, List.set_cons_zero, List.set_cons_succ, i64_w, i32_w]
      rfl
    refine take_ (i := 20) (N := (some 56)) (v := ?_) (a' := ?_) #[true, true, true, true, true, true, true, true, true, true, true, true, true, true, true, true, true, true, true, true, true, false, false, false, false, false, false, false, false, false] rfl rfl (take_ofW HT_.out HW_.out (by kernel_rfl)) (fun _ _ _ h => h) (Or.inl ⟨by rfl, ?_⟩) hHeld ?_ ?_
    rotate_left
    · rintro w' ⟨s0, s1, s2, s3⟩
      go_simp
      with_reducible rfl
    rotate_left
    · simp only [Act.put, List.setIfInBounds_toArray, List.set_cons_zero, List.set_cons_succ, i64_w, i32_w]
      rfl
    refine take_ (i := 21) (N := (some 57)) (v := ?_) (a' := ?_) #[true, true, true, true, true, true, true, true, true, true, true, true, true, true, true, true, true, true, true, true, true, true, false, false, false, false, false, false, false, false] rfl rfl (take_ofW HT_.out HW_.out (by kernel_rfl)) (fun _ _ _ h => h) (Or.inl ⟨by rfl, ?_⟩) hHeld ?_ ?_
    rotate_left
    · rintro w' ⟨s0, s1, s2, s3⟩
      go_simp
      with_reducible rfl
    rotate_left
    · simp only [Act.put, List.setIfInBounds_toArray, List.set_cons_zero, List.set_cons_succ, i64_w, i32_w]
      rfl
    refine pure_ (i := 23) (N := (some 59)) (v := ?_) (a' := ?_) #[true, true, true, true, true, true, true, true, true, true, true, true, true, true, true, true, true, true, true, true, true, true, false, true, false, false, false, false, false, false] rfl rfl (any_of HT_.out (by kernel_rfl)) (fun _ _ _ h => h) (Or.inl ⟨by rfl, ?_⟩) ?_ ?_
    rotate_left
    · intro w'
      go_simp
      with_reducible rfl
    rotate_left
    · simp only [Act.put, List.setIfInBounds_toArray, List.set_cons_zero, List.set_cons_succ, i64_w, i32_w]
      rfl
    refine take_ (i := 24) (N := (some 60)) (v := ?_) (a' := ?_) #[true, true, true, true, true, true, true, true, true, true, true, true, true, true, true, true, true, true, true, true, true, true, false, true, true, false, false, false, false, false] rfl rfl (take_ofW HT_.out HW_.out (by kernel_rfl)) (fun _ _ _ h => h) (Or.inl ⟨by rfl, ?_⟩) hHeld ?_ ?_
    rotate_left
    · rintro w' ⟨s0, s1, s2, s3⟩
      go_simp
      with_reducible rfl
    rotate_left
    · simp only [Act.put, List.setIfInBounds_toArray, List.set_cons_zero, List.set_cons_succ, i64_w, i32_w]
      rfl
    refine take_ (i := 25) (N := (some 61)) (v := ?_) (a' := ?_) #[true, true, true, true, true, true, true, true, true, true, true, true, true, true, true, true, true, true, true, true, true, true, false, true, true, true, false, false, false, false] rfl rfl (take_ofW HT_.out HW_.out (by kernel_rfl)) (fun _ _ _ h => h) (Or.inl ⟨by rfl, ?_⟩) hHeld ?_ ?_
    rotate_left
    · rintro w' ⟨s0, s1, s2, s3⟩
      go_simp
      with_reducible rfl
    rotate_left
    · simp only [Act.put, List.setIfInBounds_toArray, List.set_cons_zero, List.set_cons_succ, i64_w, i32_w]
      rfl
    refine one_ (i := 22) (N := (some 58)) #[true, true, true, true, true, true, true, true, true, true, true, true, true, true, true, true, true, true, true, true, true, true, true, true, true, true, false, false, false, false] rfl rfl (one_of HT_.out (by kernel_rfl)) (by decide) (fun K hK => ?_)
    refine goes_ Tryd.func14 (by kernel_rfl) rfl #[.int .i64 k, .agg #[.int .i64 n0, .string c0], .agg #[.int .i64 n1, .string c1]] (by rfl) rfl rfl (by (try simp only [List.map_toArray, List.map_cons, List.map_nil]); first | done | rfl) ?_
    refine (AA.out _).mono ?_
    rintro e x5 ⟨rfl, h3⟩
    refine ⟨_, rfl, ?_⟩
    have S5 := Aside0.mk (ST.step S4.out h3)
    clear h3
    refine hK.out _ _ (ca2 (i := 1) (j := 2) rfl rfl S5.out) (fun hHeld => ?_)
    clear hK K
    refine norm_ (a' := ?_) ?_ ?_
    rotate_left
    · show Act.put _ (some 58) _ = _
      simp only [Act.put, List.setIfInBounds_toArray, List.set_cons_zero, List.set_cons_succ, i64_w, i32_w]
      rfl
    refine one_ (i := 26) (N := (some 62)) #[true, true, true, true, true, true, true, true, true, true, true, true, true, true, true, true, true, true, true, true, true, true, true, true, true, true, true, false, false, false] rfl rfl (one_of HT_.out (by kernel_rfl)) (by decide) (fun K hK => ?_)
    refine goes_ Tryd.func22 (by kernel_rfl) rfl #[.int .i64 k, .agg #[.int .i64 n0, .string c0], .agg #[.int .i64 n1, .string c1]] (by rfl) rfl rfl (by (try simp only [List.map_toArray, List.map_cons, List.map_nil]); first | done | rfl) ?_
    refine (AR.out _).mono ?_
    rintro e x6 ⟨rfl, h3⟩
    refine ⟨_, rfl, ?_⟩
    have S6 := Aside0.mk (ST.step S5.out h3)
    clear h3
    refine hK.out _ _ (ca2 (i := 1) (j := 2) rfl rfl S6.out) (fun hHeld => ?_)
    clear hK K
    refine norm_ (a' := ?_) ?_ ?_
    rotate_left
    · show Act.put _ (some 62) _ = _
      simp only [Act.put, List.setIfInBounds_toArray, List.set_cons_zero, List.set_cons_succ, i64_w, i32_w]
      rfl
    refine pure_ (i := 27) (N := (some 63)) (v := ?_) (a' := ?_) #[true, true, true, true, true, true, true, true, true, true, true, true, true, true, true, true, true, true, true, true, true, true, true, true, true, true, true, true, false, false] rfl rfl (any_of HT_.out (by kernel_rfl)) (fun _ _ _ h => h) (Or.inl ⟨by rfl, ?_⟩) ?_ ?_
    rotate_left
    · intro w'
      go_simp
      with_reducible rfl
    rotate_left
    · simp only [Act.put, List.setIfInBounds_toArray, List.set_cons_zero, List.set_cons_succ, i64_w, i32_w]
      rfl
    refine pure_ (i := 28) (N := (some 64)) (v := ?_) (a' := ?_) #[true, true, true, true, true, true, true, true, true, true, true, true, true, true, true, true, true, true, true, true, true, true, true, true, true, true, true, true, true, false] rfl rfl (any_of HT_.out (by kernel_rfl)) (fun _ _ _ h => h) (Or.inl ⟨by rfl, ?_⟩) ?_ ?_
    rotate_left
    · intro w'
      go_simp
      with_reducible rfl
    rotate_left
    · simp only [Act.put, List.setIfInBounds_toArray, List.set_cons_zero, List.set_cons_succ, i64_w, i32_w]
      rfl
    refine pure_ (i := 29) (N := (some 14)) (v := ?_) (a' := ?_) #[true, true, true, true, true, true, true, true, true, true, true, true, true, true, true, true, true, true, true, true, true, true, true, true, true, true, true, true, true, true] rfl rfl (any_of HT_.out (by kernel_rfl)) (fun _ _ _ h => h) (Or.inl ⟨by rfl, ?_⟩) ?_ ?_
    rotate_left
    · intro w'
      go_simp
      with_reducible rfl
    rotate_left
    · simp only [Act.put, List.setIfInBounds_toArray, List.set_cons_zero, List.set_cons_succ, i64_w, i32_w]
      rfl
    refine done_ (done_of HT_.out (by kernel_rfl)) ?_
    go_wp2
    go_meet
    case rel => exact ⟨rfl, ⟨S6.out⟩⟩
  case rest =>
    obtain ⟨rfl, S⟩ := hcut
    clear FA FR CA CR AA AR HRD HRR
    go_upto_region 8 with fail
    refine start_ (n := 24) (S := fun w' => w'.cell? ⟨w2.heap.size, 0, none⟩ = some (.int .i64 n0) ∧ w'.cell? ⟨w2.heap.size, 1, none⟩ = some (.string c0) ∧ w'.cell? ⟨w5.heap.size, 0, none⟩ = some (.int .i64 rn) ∧ w'.cell? ⟨w5.heap.size, 1, none⟩ = some (.string rs) ∧ w'.cell? ⟨w6.heap.size, 0, none⟩ = some (.int .i64 rn) ∧ w'.cell? ⟨w6.heap.size, 1, none⟩ = some (.string rs)) (ds := []) #[false, false, false, false, false, false, false, false, false, false, false, false, false, false, false, false, false, false, false, false, false, false, false, false] (by kernel_rfl) rfl rfl (ca3 (i := 1) (j := 3) (k := 4) rfl rfl rfl S.out.drew) (fun hHeld => ?_); refine with_tabW ValueAll.tab8 ValueAll.bits8 (fun HT_ HW_ => ?_)
    refine pure_ (i := 0) (N := (some 65)) (v := ?_) (a' := ?_) #[true, false, false, false, false, false, false, false, false, false, false, false, false, false, false, false, false, false, false, false, false, false, false, false] rfl rfl (any_of HT_.out (by kernel_rfl)) (fun _ _ _ h => h) (Or.inl ⟨by rfl, ?_⟩) ?_ ?_
    rotate_left
    · intro w'
      go_simp
      with_reducible rfl
    rotate_left
    · simp only [Act.put, List.setIfInBounds_toArray, List.set_cons_zero, List.set_cons_succ, i64_w, i32_w]
      rfl
    refine pure_ (i := 1) (N := (some 66)) (v := ?_) (a' := ?_) #[true, true, false, false, false, false, false, false, false, false, false, false, false, false, false, false, false, false, false, false, false, false, false, false] rfl rfl (any_of HT_.out (by kernel_rfl)) (fun _ _ _ h => h) (Or.inl ⟨by rfl, ?_⟩) ?_ ?_
    rotate_left
    · intro w'
      go_simp
      with_reducible rfl
    rotate_left
    · simp only [Act.put, List.setIfInBounds_toArray, List.set_cons_zero, List.set_cons_succ, i64_w, i32_w]
      rfl
    refine pure_ (i := 2) (N := (some 67)) (v := ?_) (a' := ?_) #[true, true, true, false, false, false, false, false, false, false, false, false, false, false, false, false, false, false, false, false, false, false, false, false] rfl rfl (any_of HT_.out (by kernel_rfl)) (fun _ _ _ h => h) (Or.inl ⟨by rfl, ?_⟩) ?_ ?_
    rotate_left
    · intro w'
      go_simp
      with_reducible rfl
    rotate_left
    · simp only [Act.put, List.setIfInBounds_toArray, List.set_cons_zero, List.set_cons_succ, i64_w, i32_w]
      rfl
    refine pure_ (i := 3) (N := (some 68)) (v := ?_) (a' := ?_) #[true, true, true, true, false, false, false, false, false, false, false, false, false, false, false, false, false, false, false, false, false, false, false, false] rfl rfl (any_of HT_.out (by kernel_rfl)) (fun _ _ _ h => h) (Or.inl ⟨by rfl, ?_⟩) ?_ ?_
    rotate_left
    · intro w'
      go_simp
      with_reducible rfl
    rotate_left
    · simp only [Act.put, List.setIfInBounds_toArray, List.set_cons_zero, List.set_cons_succ, i64_w, i32_w]
      rfl
    refine pure_ (i := 4) (N := (some 69)) (v := ?_) (a' := ?_) #[true, true, true, true, true, false, false, false, false, false, false, false, false, false, false, false, false, false, false, false, false, false, false, false] rfl rfl (any_of HT_.out (by kernel_rfl)) (fun _ _ _ h => h) (Or.inl ⟨by rfl, ?_⟩) ?_ ?_
    rotate_left
    · intro w'
      go_simp
      with_reducible rfl
    rotate_left
    · simp only [Act.put, List.setIfInBounds_toArray, List.set_cons_zero, List.set_cons_succ, i64_w, i32_w]
      rfl
    refine pure_ (i := 5) (N := (some 70)) (v := ?_) (a' := ?_) #[true, true, true, true, true, true, false, false, false, false, false, false, false, false, false, false, false, false, false, false, false, false, false, false] rfl rfl (any_of HT_.out (by kernel_rfl)) (fun _ _ _ h => h) (Or.inl ⟨by rfl, ?_⟩) ?_ ?_
    rotate_left
    · intro w'
      go_simp
      with_reducible rfl
    rotate_left
    · simp only [Act.put, List.setIfInBounds_toArray, List.set_cons_zero, List.set_cons_succ, i64_w, i32_w]
      rfl
    refine take_ (i := 6) (N := (some 71)) (v := ?_) (a' := ?_) #[true, true, true, true, true, true, true, false, false, false, false, false, false, false, false, false, false, false, false, false, false, false, false, false] rfl rfl (take_ofW HT_.out HW_.out (by kernel_rfl)) (fun _ _ _ h => h) (Or.inl ⟨by rfl, ?_⟩) hHeld ?_ ?_
    rotate_left
    · rintro w' ⟨s0, s1, s2, s3, s4, s5⟩
      go_simp
      with_reducible rfl
    rotate_left
    · simp only [Act.put, List.setIfInBounds_toArray, List.set_cons_zero, List.set_cons_succ, i64_w, i32_w]
      rfl
    refine pure_ (i := 8) (N := (some 73)) (v := ?_) (a' := ?_) #[true, true, true, true, true, true, true, false, true, false, false, false, false, false, false, false, false, false, false, false, false, false, false, false] rfl rfl (any_of HT_.out (by kernel_rfl)) (fun _ _ _ h => h) (Or.inl ⟨by rfl, ?_⟩) ?_ ?_
    rotate_left
    · intro w'
      go_simp
      with_reducible rfl
    rotate_left
    · simp only [Act.put, List.setIfInBounds_toArray, List.set_cons_zero, List.set_cons_succ, i64_w, i32_w]
      rfl
    refine take_ (i := 9) (N := (some 74)) (v := ?_) (a' := ?_) #[true, true, true, true, true, true, true, false, true, true, false, false, false, false, false, false, false, false, false, false, false, false, false, false] rfl rfl (take_ofW HT_.out HW_.out (by kernel_rfl)) (fun _ _ _ h => h) (Or.inl ⟨by rfl, ?_⟩) hHeld ?_ ?_
    rotate_left
    · rintro w' ⟨s0, s1, s2, s3, s4, s5⟩
      go_simp
      with_reducible rfl
    rotate_left
    · simp only [Act.put, List.setIfInBounds_toArray, List.set_cons_zero, List.set_cons_succ, i64_w, i32_w]
      rfl
    refine one_ (i := 7) (N := (some 72)) #[true, true, true, true, true, true, true, true, true, true, false, false, false, false, false, false, false, false, false, false, false, false, false, false] rfl rfl (one_of HT_.out (by kernel_rfl)) (by decide) (fun K hK => ?_)
    refine goes_ Tryd.func13 (by kernel_rfl) rfl #[.int .i64 k, .agg #[.int .i64 n0, .string c0]] (by rfl) rfl rfl (by (try simp only [List.map_toArray, List.map_cons, List.map_nil]); first | done | rfl) ?_
    refine (value_Text.calls 1 k n0 c0 r _ ⟨(HT.out.step S.out.drew.b).tab⟩ TA.out).mono ?_
    rintro e x1 ⟨rfl, h3⟩
    refine ⟨_, rfl, ?_⟩
    have S1 := Aside0.mk (ST.step S.out.drew h3)
    clear h3
    refine hK.out _ _ (ca3 (i := 1) (j := 3) (k := 4) rfl rfl rfl S1.out) (fun hHeld => ?_)
    clear hK K
    refine norm_ (a' := ?_) ?_ ?_
    rotate_left
    · show Act.put _ (some 72) _ = _
      simp only [Act.put, List.setIfInBounds_toArray, List.set_cons_zero, List.set_cons_succ, i64_w, i32_w]
      rfl
    refine one_ (i := 10) (N := (some 75)) #[true, true, true, true, true, true, true, true, true, true, true, false, false, false, false, false, false, false, false, false, false, false, false, false] rfl rfl (one_of HT_.out (by kernel_rfl)) (by decide) (fun K hK => ?_)
    refine goes_ Tryd.func23 (by kernel_rfl) rfl #[.int .i64 k, .agg #[.int .i64 n0, .string c0]] (by rfl) rfl rfl (by (try simp only [List.map_toArray, List.map_cons, List.map_nil]); first | done | rfl) ?_
    refine (TR.out _).mono ?_
    rintro e x2 ⟨rfl, h3⟩
    refine ⟨_, rfl, ?_⟩
    have S2 := Aside0.mk (ST.step S1.out h3)
    clear h3
    refine hK.out _ _ (ca3 (i := 1) (j := 3) (k := 4) rfl rfl rfl S2.out) (fun hHeld => ?_)
    clear hK K
    refine norm_ (a' := ?_) ?_ ?_
    rotate_left
    · show Act.put _ (some 75) _ = _
      simp only [Act.put, List.setIfInBounds_toArray, List.set_cons_zero, List.set_cons_succ, i64_w, i32_w]
      rfl
    refine pure_ (i := 11) (N := (some 76)) (v := ?_) (a' := ?_) #[true, true, true, true, true, true, true, true, true, true, true, true, false, false, false, false, false, false, false, false, false, false, false, false] rfl rfl (any_of HT_.out (by kernel_rfl)) (fun _ _ _ h => h) (Or.inl ⟨by rfl, ?_⟩) ?_ ?_
    rotate_left
    · intro w'
      go_simp
      with_reducible rfl
    rotate_left
    · simp only [Act.put, List.setIfInBounds_toArray, List.set_cons_zero, List.set_cons_succ, i64_w, i32_w]
      rfl
    refine pure_ (i := 12) (N := (some 77)) (v := ?_) (a' := ?_) #[true, true, true, true, true, true, true, true, true, true, true, true, true, false, false, false, false, false, false, false, false, false, false, false] rfl rfl (any_of HT_.out (by kernel_rfl)) (fun _ _ _ h => h) (Or.inl ⟨by rfl, ?_⟩) ?_ ?_
    rotate_left
    · intro w'
      go_simp
      with_reducible rfl
    rotate_left
    · simp only [Act.put, List.setIfInBounds_toArray, List.set_cons_zero, List.set_cons_succ, i64_w, i32_w]
      rfl
    refine pure_ (i := 13) (N := (some 78)) (v := ?_) (a' := ?_) #[true, true, true, true, true, true, true, true, true, true, true, true, true, true, false, false, false, false, false, false, false, false, false, false] rfl rfl (any_of HT_.out (by kernel_rfl)) (fun _ _ _ h => h) (Or.inl ⟨by rfl, ?_⟩) ?_ ?_
    rotate_left
    · intro w'
      go_simp
      with_reducible rfl
    rotate_left
    · simp only [Act.put, List.setIfInBounds_toArray, List.set_cons_zero, List.set_cons_succ, i64_w, i32_w]
      rfl
    refine take_ (i := 14) (N := (some 79)) (v := ?_) (a' := ?_) #[true, true, true, true, true, true, true, true, true, true, true, true, true, true, true, false, false, false, false, false, false, false, false, false] rfl rfl (take_ofW HT_.out HW_.out (by kernel_rfl)) (fun _ _ _ h => h) (Or.inl ⟨by rfl, ?_⟩) hHeld ?_ ?_
    rotate_left
    · rintro w' ⟨s0, s1, s2, s3, s4, s5⟩
      go_simp
      with_reducible rfl
    rotate_left
    · simp only [Act.put, List.setIfInBounds_toArray, List.set_cons_zero, List.set_cons_succ, i64_w, i32_w]
      rfl
    refine take_ (i := 15) (N := (some 80)) (v := ?_) (a' := ?_) #[true, true, true, true, true, true, true, true, true, true, true, true, true, true, true, true, false, false, false, false, false, false, false, false] rfl rfl (take_ofW HT_.out HW_.out (by kernel_rfl)) (fun _ _ _ h => h) (Or.inl ⟨by rfl, ?_⟩) hHeld ?_ ?_
    rotate_left
    · rintro w' ⟨s0, s1, s2, s3, s4, s5⟩
      go_simp
      with_reducible rfl
    rotate_left
    · simp only [Act.put, List.setIfInBounds_toArray, List.set_cons_zero, List.set_cons_succ, i64_w, i32_w]
      rfl
    refine pure_ (i := 16) (N := (some 81)) (v := ?_) (a' := ?_) #[true, true, true, true, true, true, true, true, true, true, true, true, true, true, true, true, true, false, false, false, false, false, false, false] rfl rfl (any_of HT_.out (by kernel_rfl)) (fun _ _ _ h => h) (Or.inl ⟨by rfl, ?_⟩) ?_ ?_
    rotate_left
    · intro w'
      go_simp
      with_reducible rfl
    rotate_left
    · simp only [Act.put, List.setIfInBounds_toArray, List.set_cons_zero, List.set_cons_succ, i64_w, i32_w]
      rfl
    refine pure_ (i := 17) (N := (some 82)) (v := ?_) (a' := ?_) #[true, true, true, true, true, true, true, true, true, true, true, true, true, true, true, true, true, true, false, false, false, false, false, false] rfl rfl (any_of HT_.out (by kernel_rfl)) (fun _ _ _ h => h) (Or.inl ⟨by rfl, ?_⟩) ?_ ?_
    rotate_left
    · intro w'
      go_simp
      with_reducible rfl
    rotate_left
    · simp only [Act.put, List.setIfInBounds_toArray, List.set_cons_zero, List.set_cons_succ, i64_w, i32_w]
      rfl
    refine pure_ (i := 18) (N := (some 83)) (v := ?_) (a' := ?_) #[true, true, true, true, true, true, true, true, true, true, true, true, true, true, true, true, true, true, true, false, false, false, false, false] rfl rfl (any_of HT_.out (by kernel_rfl)) (fun _ _ _ h => h) (Or.inl ⟨by rfl, ?_⟩) ?_ ?_
    rotate_left
    · intro w'
      go_simp
      with_reducible rfl
    rotate_left
    · simp only [Act.put, List.setIfInBounds_toArray, List.set_cons_zero, List.set_cons_succ, i64_w, i32_w]
      rfl
    refine pure_ (i := 19) (N := (some 84)) (v := ?_) (a' := ?_) #[true, true, true, true, true, true, true, true, true, true, true, true, true, true, true, true, true, true, true, true, false, false, false, false] rfl rfl (any_of HT_.out (by kernel_rfl)) (fun _ _ _ h => h) (Or.inl ⟨by rfl, ?_⟩) ?_ ?_
    rotate_left
    · intro w'
      go_simp
      with_reducible rfl
    rotate_left
    · simp only [Act.put, List.setIfInBounds_toArray, List.set_cons_zero, List.set_cons_succ, i64_w, i32_w]
      rfl
    refine pure_ (i := 20) (N := (some 85)) (v := ?_) (a' := ?_) #[true, true, true, true, true, true, true, true, true, true, true, true, true, true, true, true, true, true, true, true, true, false, false, false] rfl rfl (any_of HT_.out (by kernel_rfl)) (fun _ _ _ h => h) (Or.inl ⟨by rfl, ?_⟩) ?_ ?_
    rotate_left
    · intro w'
      go_simp
      with_reducible rfl
    rotate_left
    · simp only [Act.put, List.setIfInBounds_toArray, List.set_cons_zero, List.set_cons_succ, i64_w, i32_w]
      rfl
    refine pure_ (i := 21) (N := (some 86)) (v := ?_) (a' := ?_) #[true, true, true, true, true, true, true, true, true, true, true, true, true, true, true, true, true, true, true, true, true, true, false, false] rfl rfl (any_of HT_.out (by kernel_rfl)) (fun _ _ _ h => h) (Or.inl ⟨by rfl, ?_⟩) ?_ ?_
    rotate_left
    · intro w'
      go_simp
      with_reducible rfl
    rotate_left
    · simp only [Act.put, List.setIfInBounds_toArray, List.set_cons_zero, List.set_cons_succ, i64_w, i32_w]
      rfl
    refine pure_ (i := 22) (N := (some 87)) (v := ?_) (a' := ?_) #[true, true, true, true, true, true, true, true, true, true, true, true, true, true, true, true, true, true, true, true, true, true, true, false] rfl rfl (any_of HT_.out (by kernel_rfl)) (fun _ _ _ h => h) (Or.inl ⟨by rfl, ?_⟩) ?_ ?_
    rotate_left
    · intro w'
      go_simp
      with_reducible rfl
    rotate_left
    · simp only [Act.put, List.setIfInBounds_toArray, List.set_cons_zero, List.set_cons_succ, i64_w, i32_w]
      rfl
    refine pure_ (i := 23) (N := (some 6)) (v := ?_) (a' := ?_) #[true, true, true, true, true, true, true, true, true, true, true, true, true, true, true, true, true, true, true, true, true, true, true, true] rfl rfl (any_of HT_.out (by kernel_rfl)) (fun _ _ _ h => h) (Or.inl ⟨by rfl, ?_⟩) ?_ ?_
    rotate_left
    · intro w'
      go_simp
      with_reducible rfl
    rotate_left
    · simp only [Act.put, List.setIfInBounds_toArray, List.set_cons_zero, List.set_cons_succ, i64_w, i32_w]
      rfl
    refine done_ (done_of HT_.out (by kernel_rfl)) ?_
    go_wp2
    go_ret
    exact ⟨rfl, S2.out.b⟩
end Go.Proofs.YtohbpgdhpfmlgaaDoor.PA
