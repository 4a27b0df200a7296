/- Two hexadecimal digits as a number: what the library's ParseUint tells of two bytes at base sixteen. -/
import Derived.Test.YtohbpgdhpfmlgaaDoorG3
import Derived.Test.YtohbpgdhpfmlgaaDoorShelfP
import Derived.Outline
import Derived.Deep.LoopGhost
namespace Go.Proofs.YtohbpgdhpfmlgaaDoor.PA
open Go.Shelf Go.RowKit Go.Lib Go.Proofs.YtohbpgdhpfmlgaaDoorW.PrintWords
set_option linter.unusedVariables false
set_option linter.unusedSimpArgs false
/-- A letter made small. -/
def lw (c : UInt8) : Nat := (bits .or .u8 (c.toNat : Int) 32).toNat
theorem lw_all : ∀ c : Fin 256, bits .or .u8 (c.val : Int) 32 = ((c.val ||| 32 : Nat) : Int) := by decide +kernel
theorem lw_eq (c : UInt8) : bits .or .u8 (c.toNat : Int) 32 = (lw c : Int) ∧ lw c < 256 := by
  have h := lw_all ⟨c.toNat, c.toNat_lt⟩
  have h2 : c.toNat ||| 32 < 2 ^ 8 := Nat.or_lt_two_pow c.toNat_lt (by decide)
  unfold lw
  simp only at h
  rw [h]
  simp
  omega
/-- A hexadecimal digit. -/
def hx (c : UInt8) : Option Nat := if 48 ≤ c.toNat ∧ c.toNat ≤ 57 then some (c.toNat - 48) else if 97 ≤ lw c ∧ lw c ≤ 102 then some (lw c - 87) else none
/-- Two of them. -/
def hx2 (a b : UInt8) : Option Nat := (hx a).bind fun x => (hx b).map fun y => x * 16 + y
theorem hx_lt {c : UInt8} {x : Nat} (h : hx c = some x) : x < 16 := by
  unfold hx at h
  split at h
  · have := Option.some.inj h; omega
  · split at h
    · have := Option.some.inj h; omega
    · cases h
/-- What ParseUint tells of two bytes. -/
def pu (r : Option Nat) : Value := match r with | some n => .tuple #[.int .u64 (n : Int), .nilIface] | none => .tuple #[.int .u64 0, .iface 80 (.int .i64 2)]
def acc2 (a b : UInt8) : Nat → Option Nat
  | 0 => some 0
  | 1 => hx a
  | _ => hx2 a b
theorem acc_step {a b c : UInt8} {j n : Nat} (h : acc2 a b j = some n) (hc : [a, b].getD j 0 = c) (hj : j < 2) {d : Nat} (hd : hx c = some d) : acc2 a b (j + 1) = some (n * 16 + d) := by
  match j, hj with
  | 0, _ =>
    have := Option.some.inj h
    subst this
    have e : a = c := hc
    subst e
    show hx a = _
    rw [hd]; simp
  | 1, _ =>
    have e : b = c := hc
    subst e
    have h' : hx a = some n := h
    show hx2 a b = _
    unfold hx2
    rw [h', hd]; rfl
theorem acc_fail {a b c : UInt8} {j n : Nat} (h : acc2 a b j = some n) (hc : [a, b].getD j 0 = c) (hj : j < 2) (hd : hx c = none) : hx2 a b = none := by
  match j, hj with
  | 0, _ =>
    have e : a = c := hc
    subst e
    unfold hx2
    rw [hd]; rfl
  | 1, _ =>
    have e : b = c := hc
    subst e
    have h' : hx a = some n := h
    unfold hx2
    rw [h', hd]; rfl
theorem lowerC (c : UInt8) (w : World) : Calls Tryd.prog 61 #[.int .u8 (c.toNat : Int)] w fun e w' => e = .returned (.int .u8 (lw c : Int)) ∧ w' = w := by
  have h := Tryd.internal_strconv_lower (c.toNat : Int) w
  rw [(lw_eq c).1] at h
  exact h
set_option maxHeartbeats 8000000 in
set_option maxRecDepth 100000 in
theorem pu16 (s : ByteArray) (a b : UInt8) (hs : s.data.toList = [a, b]) (w : World) :
    Calls Tryd.prog 47 #[.string s, .int .i64 16, .int .i64 8] w fun e w' => e = .returned (pu (hx2 a b)) ∧ Below w.heap.size w w' := by
  have hcv := fun W => Lib.run_convert_string_bytes (P := Tryd.prog) W 9 65 5 s Tryd.underlying9 Tryd.underlying65 Tryd.underlying5
  have hsz : s.size = 2 := by have := congrArg List.length hs; simpa using this
  have hne : (s.toList == []) = false := by
    rw [ByteArray.toList_eq, hs]; rfl
  have HS := Aside0.mk hs
  clear hs
  go_enter Tryd.func47, Tryd.ntmps47
  go_wp2_with fail
  have HG := Aside0.mk (Lib.bytesWorld_at_new w 5 s)
  have HB2 := Aside0.mk (bytes_below w 5 s)
  generalize grownCap w 2 0 5 = gcap
  generalize hg2 : w.heap.size = g2 at HG HB2 ⊢
  generalize bytesWorld w 5 s = w2 at HG HB2 ⊢
  have HGE := Aside0.mk hg2
  clear hg2
  obtain ⟨C, hC, hC1⟩ : ∃ C : Int, 1152921504606846976 = C ∧ 100 ≤ C := ⟨_, rfl, by decide⟩
  rw [hC]
  clear hC
  go_loopg [12, 13, 101] 2 (fun kq v12 v13 v101 w' => ∃ (j n : Nat), v12 = .bool false ∧ v101 = .int .i64 j ∧ v13 = .int .u64 n ∧ Aside0 (j + kq = 2) ∧ Aside0 (acc2 a b j = some n) ∧ Aside0 (w'.heap[g2]? = some (.cells (bytesCells w 5 s) 5 ((bytesCells w 5 s).size, (bytesCells w 5 s).size + 1))) ∧ Aside0 (Below g2 w w'))
  case atStart => exact ⟨0, 0, rfl, rfl, rfl, ⟨rfl⟩, ⟨rfl⟩, ⟨HG.out⟩, ⟨HB2.out⟩⟩
  case round =>
    obtain ⟨j, n, rfl, rfl, rfl, HJ, HA, HGr, HB⟩ := hrel
    clear HG HB2
    have hj := HJ.out
    have hn16 : j < 2 → n < 16 := by
      intro hlt
      have h := HA.out
      match j, hlt with
      | 0, _ => have := Option.some.inj h; omega
      | 1, _ => exact hx_lt h
    by_cases hlt : j < 2
    · have hn := hn16 hlt
      clear hn16
      obtain ⟨f, rfl⟩ : ∃ f, gk = f + 1 := ⟨gk - 1, by omega⟩
      have hcell := bytes_cell HGr.out j (by omega)
      generalize hc : s.data.toList.getD j 0 = c at hcell
      have HC := Aside0.mk hc
      clear hc
      have hc256 : c.toNat < 256 := c.toNat_lt
      obtain ⟨hl, hl256⟩ := lw_eq c
      have HL := Aside0.mk hl
      clear hl
      have hb95 : ((c.toNat : Int) == 95) = false ∨ ((c.toNat : Int) == 95) = true := by
        cases ((c.toNat : Int) == 95)
        · exact Or.inl rfl
        · exact Or.inr rfl
      have HN := Aside0.mk (acc_fail (c := c) HA.out (by rw [← HS.out]; exact HC.out) hlt)
      have HST := Aside0.mk (fun d hd => acc_step (c := c) HA.out (by rw [← HS.out]; exact HC.out) hlt (d := d) hd)
      by_cases h1 : 48 ≤ c.toNat ∧ c.toNat ≤ 57
      · have hxd := Aside0.mk (HST.out (c.toNat - 48) (by unfold hx; rw [if_pos h1]))
        obtain ⟨h1a, h1b⟩ := h1
        have h95 : ((c.toNat : Int) == 95) = false := by simp <;> omega
        have e1 : decide (48 ≤ (c.toNat : Int)) = true := by simp <;> omega
        have e2 : decide ((c.toNat : Int) ≤ 57) = true := by simp <;> omega
        clear hb95 HA
        go_wp2
        go_roundg f
        case measure => omega
        case rel => exact ⟨j + 1, n * 16 + (c.toNat - 48), rfl, by go_num, congrArg (Value.int .u64) (by omega), ⟨by omega⟩, ⟨hxd.out⟩, ⟨HGr.out⟩, ⟨HB.out⟩⟩
      · have e0 : (decide (48 ≤ (c.toNat : Int)) = true ∧ decide ((c.toNat : Int) ≤ 57) = false) ∨ decide (48 ≤ (c.toNat : Int)) = false := by
          by_cases h : 48 ≤ c.toNat
          · exact Or.inl ⟨by simp <;> omega, by simp <;> omega⟩
          · exact Or.inr (by simp <;> omega)
        by_cases h2 : 97 ≤ lw c ∧ lw c ≤ 122
        · obtain ⟨h2a, h2b⟩ := h2
          have e3 : decide (97 ≤ (lw c : Int)) = true := by simp <;> omega
          have e4 : decide ((lw c : Int) ≤ 122) = true := by simp <;> omega
          by_cases h3 : lw c ≤ 102
          · have hxd := Aside0.mk (HST.out (lw c - 87) (by unfold hx; rw [if_neg h1, if_pos ⟨h2a, h3⟩]))
            clear h1 HA
            rcases hb95 with h95 | h95 <;> rcases e0 with ⟨e1, e2⟩ | e1
            all_goals first
            | (exfalso; simp at e1; omega)
            | (exfalso; simp at e1 e2; omega)
            | (go_wp2_with (go_at_call 61; refine (lowerC c _).mono ?_; rintro e w' ⟨rfl, rfl⟩)
               go_roundg f
               case measure => omega
               case rel => exact ⟨j + 1, n * 16 + (lw c - 87), rfl, by go_num, congrArg (Value.int .u64) (by omega), ⟨by omega⟩, ⟨hxd.out⟩, ⟨HGr.out⟩, ⟨HB.out⟩⟩)
          · have hxn := Aside0.mk (HN.out (by unfold hx; rw [if_neg h1, if_neg (by omega)]))
            clear h1 HA
            rcases hb95 with h95 | h95 <;> rcases e0 with ⟨e1, e2⟩ | e1
            all_goals first
            | (exfalso; simp at e1; omega)
            | (exfalso; simp at e1 e2; omega)
            | (go_wp2_with (go_at_call 61; refine (lowerC c _).mono ?_; rintro e w' ⟨rfl, rfl⟩)
               go_ret2
               exact ⟨by rw [hxn.out]; rfl, by rw [HGE.out]; exact HB.out⟩)
        · have hxn := Aside0.mk (HN.out (by unfold hx; rw [if_neg h1, if_neg (by omega)]))
          have e3 : (decide (97 ≤ (lw c : Int)) = true ∧ decide ((lw c : Int) ≤ 122) = false) ∨ decide (97 ≤ (lw c : Int)) = false := by
            by_cases h : 97 ≤ lw c
            · exact Or.inl ⟨by simp <;> omega, by simp <;> omega⟩
            · exact Or.inr (by simp <;> omega)
          clear h1 h2 HA
          rcases hb95 with h95 | h95 <;> rcases e0 with ⟨e1, e2⟩ | e1 <;> rcases e3 with ⟨e3, e4⟩ | e3
          all_goals first
          | (exfalso; simp at e1; omega)
          | (exfalso; simp at e1 e2; omega)
          | (go_wp2_with (go_at_call 61; refine (lowerC c _).mono ?_; rintro e w' ⟨rfl, rfl⟩)
             go_ret2
             exact ⟨by rw [hxn.out]; rfl, by rw [HGE.out]; exact HB.out⟩)
    · have hje : j = 2 := by omega
      have HA2 : hx2 a b = some n := by have := HA.out; rw [hje] at this; exact this
      have HA3 := Aside0.mk HA2
      clear HA2 hn16
      have hj2 : 2 ≤ j := by omega
      clear hje
      go_wp2
      go_ret2
      exact ⟨by rw [HA3.out]; rfl, by rw [HGE.out]; exact HB.out⟩
end Go.Proofs.YtohbpgdhpfmlgaaDoor.PA
