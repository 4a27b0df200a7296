/- value.quoted: a text between marks. -/
import Derived.Test.YtohbpgdhpfmlgaaDoorG2
import Derived.Outline
import Derived.Deep.LoopGhost
namespace Go.Proofs.YtohbpgdhpfmlgaaDoor.PA
open Go.Shelf Go.RowKit Go.Lib Go.Proofs.YtohbpgdhpfmlgaaDoorW.PrintWords
set_option linter.unusedVariables false
set_option linter.unusedSimpArgs false
def hexL : List UInt8 := [48, 49, 50, 51, 52, 53, 54, 55, 56, 57, 97, 98, 99, 100, 101, 102]
def odd (c : UInt8) : Bool := decide (c.toNat < 32) || decide (c.toNat > 126) || decide (c.toNat = 34) || decide (c.toNat = 92)
def qc (c : UInt8) : List UInt8 := if odd c = true then [92, hexL.getD (c.toNat / 16) 0, hexL.getD (c.toNat % 16) 0] else [c]
def qL (l : List UInt8) : List UInt8 := 34 :: l.flatMap qc
theorem qc_len (c : UInt8) : (qc c).length ≤ 3 := by unfold qc; split <;> simp
theorem qL_len (l : List UInt8) : (qL l).length ≤ 3 * l.length + 1 := by
  unfold qL
  induction l with
  | nil => simp
  | cons a l ih => have := qc_len a; simp only [List.flatMap_cons, List.length_cons, List.length_append] at *; omega
theorem qL_snoc (l : List UInt8) (c : UInt8) : qL (l ++ [c]) = qL l ++ qc c := by simp [qL]
def value_quoted.f (a0 : ByteArray) : Option ByteArray := if a0.size ≤ 60 then some ⟨(qL a0.data.toList ++ [34]).toArray⟩ else none
theorem wb (B b : Nat) (l : List UInt8) (c : Int) (d : UInt8) (hd : c = (d.toNat : Int)) (w : World) (h : Lib.IsBuilder 67 5 B b (Lib.byteCells l) w) (hlen : l.length ≤ 1000) (hBw : B ≤ w.heap.size) :
    Calls Tryd.prog 43 #[.pointer (some ⟨b, 0, none⟩), .int .u8 c] w fun e w' => e = .returned .nilIface ∧ (Lib.IsBuilder 67 5 B b (Lib.byteCells (l ++ [d])) w' ∧ Below B w w' ∧ MK b w w') := by
  refine (writeByte B b _ c w h (by rw [Lib.byteCells_length]; omega) hBw).mono ?_
  rintro e w' ⟨rfl, h1, h2, h3⟩
  refine ⟨rfl, ?_, h2, h3⟩
  have e : Lib.byteCells (l ++ [d]) = Lib.byteCells l ++ [.int .u8 c] := by simp [Lib.byteCells, hd]
  rw [e]; exact h1
theorem take_snoc' (s : ByteArray) (j : Nat) (hj : j < s.size) : s.data.toList.take (j + 1) = s.data.toList.take j ++ [s.data.toList.getD j 0] := by
  rw [List.take_succ_eq_append_getElem (by simpa using hj)]
  simp [List.getD, hj]
theorem hex_get (n : Nat) (h : n < (⟨#[48, 49, 50, 51, 52, 53, 54, 55, 56, 57, 97, 98, 99, 100, 101, 102]⟩ : ByteArray).size) : (((⟨#[48, 49, 50, 51, 52, 53, 54, 55, 56, 57, 97, 98, 99, 100, 101, 102]⟩ : ByteArray)[n]'h).toNat : Int) = ((hexL.getD n 0).toNat : Int) := by
  have h' : n < hexL.length := h
  have e : (⟨#[48, 49, 50, 51, 52, 53, 54, 55, 56, 57, 97, 98, 99, 100, 101, 102]⟩ : ByteArray)[n]'h = hexL[n]'h' := rfl
  rw [e]
  simp [List.getD, h']
theorem bytes_below (w : World) (e : TypeId) (s : ByteArray) : Below w.heap.size w (Lib.bytesWorld w e s) :=
  ⟨rfl, rfl, rfl, by rw [Lib.bytesWorld_size]; omega, fun k hk => Lib.bytesWorld_at_old w e s k hk⟩
theorem bytes_cell {w w1 : World} {g2 : Nat} {s : ByteArray} {fz : Nat × Nat} (h : w.heap[g2]? = some (.cells (bytesCells w1 5 s) 5 fz)) (j : Nat) (hj : j < s.size) : w.cell? ⟨g2, j, none⟩ = some (.int .u8 (s.data.toList.getD j 0).toNat) := by
  simp [World.cell?, h, bytesCells, Array.getElem?_append, List.getD, hj]
theorem lt_of_bld {B b : Nat} {bs : List Value} {w : World} (h : Lib.IsBuilder 67 5 B b bs w) : b < w.heap.size := by
  rcases h with h | h <;> exact h.lt
theorem bld_keep {B b : Nat} {bs : List Value} {w w' : World} (h : Lib.IsBuilder 67 5 B b bs w) (hb : Below w.heap.size w w') : Lib.IsBuilder 67 5 B b bs w' := by
  have own : ∀ v n xs, w.ownsRow B 5 1 v n xs → w'.ownsRow B 5 1 v n xs := by
    rintro v n xs ⟨h1, h2 | ⟨g, cap, cur, h3, h4, h5, h6⟩⟩
    · exact ⟨h1, .inl h2⟩
    · exact ⟨h1, .inr ⟨g, cap, cur, h3, h4, (hb.block g (lt_of_get h5)).trans h5, h6⟩⟩
  rcases h with ⟨h1, v, h2, h3, h4⟩ | ⟨h1, v, h2, h3, h4⟩
  · exact .inl ⟨h1, v, (hb.block b (lt_of_get h2)).trans h2, own _ _ _ h3, h4⟩
  · exact .inr ⟨h1, v, (hb.block b (lt_of_get h2)).trans h2, own _ _ _ h3, h4⟩
theorem bld_bytes {B b : Nat} {bs : List Value} {w : World} (h : Lib.IsBuilder 67 5 B b bs w) (s : ByteArray) : Lib.IsBuilder 67 5 B b bs (Lib.bytesWorld w 5 s) := bld_keep h (bytes_below w 5 s)
set_option maxHeartbeats 4000000 in
set_option maxRecDepth 100000 in
theorem quoted_any (s : ByteArray) (hs : s.size ≤ 60) (w : World) :
    Calls Tryd.prog 29 #[.string s] w fun e w' => e = .returned (.string ⟨(qL s.data.toList ++ [34]).toArray⟩) ∧ Below w.heap.size w w' := by
  have hcv := fun W => Lib.run_convert_string_bytes (P := Tryd.prog) W 9 65 5 s Tryd.underlying9 Tryd.underlying65 Tryd.underlying5
  have hb0 : Lib.IsBuilder 67 5 w.heap.size w.heap.size (Lib.byteCells []) (w.alloc (.cells #[.pointer none, .slice none 0 0] 67)) :=
    .inl ⟨Nat.le_refl _, .slice none 0 0, blk_new w _, ⟨rfl, .inl ⟨rfl, rfl⟩⟩, by simp [Value.ownBlock]⟩
  have HB0 := Aside0.mk (below_alloc (Below.refl w.heap.size w) (.cells #[.pointer none, .slice none 0 0] 67))
  go_enter Tryd.func29, Tryd.ntmps29
  go_wp2_with fail
  refine (wb w.heap.size w.heap.size [] 34 34 (by decide) _ hb0 (by simp) (by simp)).mono ?_
  rintro e w1 ⟨rfl, hb1, hB1, hm1⟩
  have HI1 := Aside0.mk hb1
  have hgl := lt_of_bld hb1
  have HB1 := Aside0.mk (HB0.out.trans hB1)
  clear hb0 hb1 hB1 hm1 HB0
  go_wp2_with fail
  have HG := Aside0.mk (Lib.bytesWorld_at_new w1 5 s)
  have HI2 := Aside0.mk (bld_bytes HI1.out s)
  have HB2 := Aside0.mk (HB1.out.trans ((bytes_below w1 5 s).mono HB1.out.size))
  have HBn := HB1.out.size
  clear HI1 HB1
  obtain ⟨g2, hg2⟩ : ∃ g2, g2 = w1.heap.size := ⟨_, rfl⟩
  rw [← hg2] at HG ⊢
  have hgne : w.heap.size < g2 := by rw [hg2]; exact hgl
  have HZ := Aside0.mk hg2
  clear hg2
  generalize grownCap w1 s.size 0 5 = gcap
  generalize bytesWorld w1 5 s = w2 at HG HI2 HB2 ⊢
  go_loopg [10] s.size (fun kq v10 w' => ∃ j : Nat, v10 = .int .i64 j ∧ Aside0 (j + kq = s.size) ∧ Aside0 (Lib.IsBuilder 67 5 w.heap.size w.heap.size (Lib.byteCells (qL (s.data.toList.take j))) w') ∧ Aside0 (w'.heap[g2]? = some (.cells (bytesCells w1 5 s) 5 ((bytesCells w1 5 s).size, (bytesCells w1 5 s).size + 1))) ∧ Aside0 (Below w.heap.size w w'))
  case atStart => exact ⟨0, rfl, ⟨by omega⟩, ⟨HI2.out⟩, ⟨HG.out⟩, ⟨HB2.out⟩⟩
  case round =>
    obtain ⟨j, rfl, HJ, HI, HGr, HB⟩ := hrel
    clear HI2 HG HB2
    have hj := HJ.out
    by_cases hlt : j < s.size
    · have hcell := bytes_cell HGr.out j hlt
      generalize hc : s.data.toList.getD j 0 = c at hcell
      have HC := Aside0.mk hc
      clear hc
      have hc256 : c.toNat < 256 := c.toNat_lt
      obtain ⟨f, rfl⟩ : ∃ f, gk = f + 1 := ⟨gk - 1, by omega⟩
      have hln := qL_len (s.data.toList.take j)
      have hlt2 : (s.data.toList.take j).length ≤ j := List.length_take_le _ _
      have hl1 : (qL (s.data.toList.take j)).length ≤ 900 := by omega
      have hBn := HB.out.size
      have HS := Aside0.mk (show qL (s.data.toList.take (j + 1)) = qL (s.data.toList.take j) ++ qc c by rw [← HC.out, take_snoc' s j hlt, qL_snoc])
      clear hln hlt2
      by_cases ho : odd c = true
      · have hs1 : c.toNat < 32 ∨ ¬ c.toNat < 32 ∧ (c.toNat > 126 ∨ ¬ c.toNat > 126 ∧ (c.toNat = 34 ∨ ¬ c.toNat = 34 ∧ c.toNat = 92)) := by
          simp [odd] at ho; omega
        have hqc : qc c = [92, hexL.getD (c.toNat / 16) 0, hexL.getD (c.toNat % 16) 0] := by unfold qc; rw [if_pos ho]
        have HQ := Aside0.mk hqc
        clear ho hqc
        rcases hs1 with h1 | ⟨h1, h2 | ⟨h2, h3 | ⟨h3, h4⟩⟩⟩
        · have b1 : decide ((c.toNat : Int) < 32) = true := by simp; omega
          go_wp2_with fail
          refine (wb _ _ _ 92 92 (by decide) _ HI.out (by omega) (by omega)).mono ?_
          rintro e w3 ⟨rfl, hi3, hb3, hm3⟩
          have HI3 := Aside0.mk hi3
          have HB3 := Aside0.mk hb3
          have HM3 := Aside0.mk hm3
          have hz3 := hb3.size
          clear hi3 hb3 hm3
          go_wp2_with fail
          (with_reducible refine (wb _ _ _ _ (hexL.getD (c.toNat / 16) 0) ?_ _ HI3.out ?_ ?_).mono ?_)
          · exact hex_get _ _
          · simp; omega
          · omega
          rintro e w4 ⟨rfl, hi3, hb3, hm3⟩
          have HI4 := Aside0.mk hi3
          have HB4 := Aside0.mk hb3
          have HM4 := Aside0.mk hm3
          have hz4 := hb3.size
          clear hi3 hb3 hm3
          go_wp2_with fail
          (with_reducible refine (wb _ _ _ _ (hexL.getD (c.toNat % 16) 0) ?_ _ HI4.out ?_ ?_).mono ?_)
          · exact hex_get _ _
          · simp; omega
          · omega
          rintro e w5 ⟨rfl, hi3, hb3, hm3⟩
          have HI5 := Aside0.mk hi3
          have HB5 := Aside0.mk hb3
          have HM5 := Aside0.mk hm3
          clear hi3 hb3 hm3
          go_wp2
          go_roundg f
          case measure => omega
          case rel => exact ⟨j + 1, by go_num, ⟨by omega⟩, ⟨by rw [HS.out, HQ.out]; simpa using HI5.out⟩, ⟨HM5.out _ _ _ _ (by simp) (by omega) (HM4.out _ _ _ _ (by simp) (by omega) (HM3.out _ _ _ _ (by simp) (by omega) HGr.out))⟩, ⟨((HB.out.trans HB3.out).trans HB4.out).trans HB5.out⟩⟩
        · have b1 : decide ((c.toNat : Int) < 32) = false := by simp; omega
          have b2 : decide ((c.toNat : Int) > 126) = true := by simp; omega
          go_wp2_with fail
          refine (wb _ _ _ 92 92 (by decide) _ HI.out (by omega) (by omega)).mono ?_
          rintro e w3 ⟨rfl, hi3, hb3, hm3⟩
          have HI3 := Aside0.mk hi3
          have HB3 := Aside0.mk hb3
          have HM3 := Aside0.mk hm3
          have hz3 := hb3.size
          clear hi3 hb3 hm3
          go_wp2_with fail
          (with_reducible refine (wb _ _ _ _ (hexL.getD (c.toNat / 16) 0) ?_ _ HI3.out ?_ ?_).mono ?_)
          · exact hex_get _ _
          · simp; omega
          · omega
          rintro e w4 ⟨rfl, hi3, hb3, hm3⟩
          have HI4 := Aside0.mk hi3
          have HB4 := Aside0.mk hb3
          have HM4 := Aside0.mk hm3
          have hz4 := hb3.size
          clear hi3 hb3 hm3
          go_wp2_with fail
          (with_reducible refine (wb _ _ _ _ (hexL.getD (c.toNat % 16) 0) ?_ _ HI4.out ?_ ?_).mono ?_)
          · exact hex_get _ _
          · simp; omega
          · omega
          rintro e w5 ⟨rfl, hi3, hb3, hm3⟩
          have HI5 := Aside0.mk hi3
          have HB5 := Aside0.mk hb3
          have HM5 := Aside0.mk hm3
          clear hi3 hb3 hm3
          go_wp2
          go_roundg f
          case measure => omega
          case rel => exact ⟨j + 1, by go_num, ⟨by omega⟩, ⟨by rw [HS.out, HQ.out]; simpa using HI5.out⟩, ⟨HM5.out _ _ _ _ (by simp) (by omega) (HM4.out _ _ _ _ (by simp) (by omega) (HM3.out _ _ _ _ (by simp) (by omega) HGr.out))⟩, ⟨((HB.out.trans HB3.out).trans HB4.out).trans HB5.out⟩⟩
        · have b1 : decide ((c.toNat : Int) < 32) = false := by simp; omega
          have b2 : decide ((c.toNat : Int) > 126) = false := by simp; omega
          have b3 : ((c.toNat : Int) == 34) = true := by simp; omega
          have h3a : c.toNat ≤ 34 := by omega
          have h3b : 34 ≤ c.toNat := by omega
          clear h3
          go_wp2_with fail
          refine (wb _ _ _ 92 92 (by decide) _ HI.out (by omega) (by omega)).mono ?_
          rintro e w3 ⟨rfl, hi3, hb3, hm3⟩
          have HI3 := Aside0.mk hi3
          have HB3 := Aside0.mk hb3
          have HM3 := Aside0.mk hm3
          have hz3 := hb3.size
          clear hi3 hb3 hm3
          go_wp2_with fail
          (with_reducible refine (wb _ _ _ _ (hexL.getD (c.toNat / 16) 0) ?_ _ HI3.out ?_ ?_).mono ?_)
          · exact hex_get _ _
          · simp; omega
          · omega
          rintro e w4 ⟨rfl, hi3, hb3, hm3⟩
          have HI4 := Aside0.mk hi3
          have HB4 := Aside0.mk hb3
          have HM4 := Aside0.mk hm3
          have hz4 := hb3.size
          clear hi3 hb3 hm3
          go_wp2_with fail
          (with_reducible refine (wb _ _ _ _ (hexL.getD (c.toNat % 16) 0) ?_ _ HI4.out ?_ ?_).mono ?_)
          · exact hex_get _ _
          · simp; omega
          · omega
          rintro e w5 ⟨rfl, hi3, hb3, hm3⟩
          have HI5 := Aside0.mk hi3
          have HB5 := Aside0.mk hb3
          have HM5 := Aside0.mk hm3
          clear hi3 hb3 hm3
          go_wp2
          go_roundg f
          case measure => omega
          case rel => exact ⟨j + 1, by go_num, ⟨by omega⟩, ⟨by rw [HS.out, HQ.out]; simpa using HI5.out⟩, ⟨HM5.out _ _ _ _ (by simp) (by omega) (HM4.out _ _ _ _ (by simp) (by omega) (HM3.out _ _ _ _ (by simp) (by omega) HGr.out))⟩, ⟨((HB.out.trans HB3.out).trans HB4.out).trans HB5.out⟩⟩
        · have b1 : decide ((c.toNat : Int) < 32) = false := by simp; omega
          have b2 : decide ((c.toNat : Int) > 126) = false := by simp; omega
          have b3 : ((c.toNat : Int) == 34) = false := by simp; omega
          have b4 : ((c.toNat : Int) == 92) = true := by simp; omega
          have h4a : c.toNat ≤ 92 := by omega
          have h4b : 92 ≤ c.toNat := by omega
          clear h4
          go_wp2_with fail
          refine (wb _ _ _ 92 92 (by decide) _ HI.out (by omega) (by omega)).mono ?_
          rintro e w3 ⟨rfl, hi3, hb3, hm3⟩
          have HI3 := Aside0.mk hi3
          have HB3 := Aside0.mk hb3
          have HM3 := Aside0.mk hm3
          have hz3 := hb3.size
          clear hi3 hb3 hm3
          go_wp2_with fail
          (with_reducible refine (wb _ _ _ _ (hexL.getD (c.toNat / 16) 0) ?_ _ HI3.out ?_ ?_).mono ?_)
          · exact hex_get _ _
          · simp; omega
          · omega
          rintro e w4 ⟨rfl, hi3, hb3, hm3⟩
          have HI4 := Aside0.mk hi3
          have HB4 := Aside0.mk hb3
          have HM4 := Aside0.mk hm3
          have hz4 := hb3.size
          clear hi3 hb3 hm3
          go_wp2_with fail
          (with_reducible refine (wb _ _ _ _ (hexL.getD (c.toNat % 16) 0) ?_ _ HI4.out ?_ ?_).mono ?_)
          · exact hex_get _ _
          · simp; omega
          · omega
          rintro e w5 ⟨rfl, hi3, hb3, hm3⟩
          have HI5 := Aside0.mk hi3
          have HB5 := Aside0.mk hb3
          have HM5 := Aside0.mk hm3
          clear hi3 hb3 hm3
          go_wp2
          go_roundg f
          case measure => omega
          case rel => exact ⟨j + 1, by go_num, ⟨by omega⟩, ⟨by rw [HS.out, HQ.out]; simpa using HI5.out⟩, ⟨HM5.out _ _ _ _ (by simp) (by omega) (HM4.out _ _ _ _ (by simp) (by omega) (HM3.out _ _ _ _ (by simp) (by omega) HGr.out))⟩, ⟨((HB.out.trans HB3.out).trans HB4.out).trans HB5.out⟩⟩
      · have h1 : decide ((c.toNat : Int) < 32) = false := by simp [odd] at ho; simp; omega
        have h2 : decide ((c.toNat : Int) > 126) = false := by simp [odd] at ho; simp; omega
        have h3 : ((c.toNat : Int) == 34) = false := by simp [odd] at ho; simp; omega
        have h4 : ((c.toNat : Int) == 92) = false := by simp [odd] at ho; simp; omega
        have HQ := Aside0.mk (show qc c = [c] by unfold qc; rw [if_neg ho])
        clear ho
        go_wp2_with fail
        refine (wb _ _ _ _ c rfl _ HI.out (by omega) (by omega)).mono ?_
        rintro e w3 ⟨rfl, hi3, hb3, hm3⟩
        have HI3 := Aside0.mk hi3
        have HB3 := Aside0.mk hb3
        have HM3 := Aside0.mk hm3
        clear hi3 hb3 hm3
        go_wp2
        go_roundg f
        case measure => omega
        case rel => exact ⟨j + 1, by go_num, ⟨by omega⟩, ⟨by rw [HS.out, HQ.out]; exact HI3.out⟩, ⟨HM3.out _ _ _ _ (by simp) (by omega) HGr.out⟩, ⟨HB.out.trans HB3.out⟩⟩
    · have hend : j = s.size := by omega
      have HT := Aside0.mk (show s.data.toList.take j = s.data.toList from List.take_of_length_le (by simp; omega))
      have hln := qL_len s.data.toList
      have hl1 : (qL s.data.toList).length ≤ 900 := by simp at hln; omega
      have hBn := HB.out.size
      have HI' := HI.out
      rw [HT.out] at HI'
      have HI2 := Aside0.mk HI'
      clear HI HI' hend hln
      go_wp2_with fail
      refine (wb _ _ _ 34 34 (by decide) _ HI2.out (by omega) (by omega)).mono ?_
      rintro e w3 ⟨rfl, hi3, hb3, hm3⟩
      have HI3 := Aside0.mk hi3
      have HB3 := Aside0.mk hb3
      have hsz3 := hb3.size
      clear hi3 hb3 hm3
      go_wp2_with fail
      refine (Tryd.Builder_String_any _ _ _ _ HI3.out (by omega)).mono ?_
      rintro e w4 ⟨rfl, hb4⟩
      have HB4 := Aside0.mk hb4
      clear hb4
      go_wp2
      go_ret
      exact ⟨rfl, (HB.out.trans HB3.out).trans HB4.out⟩
theorem value_quoted.calls (a0 : ByteArray) (r : ByteArray) (w : World) (h : value_quoted.f a0 = some r) :
    Calls Tryd.prog 29 #[.string a0] w fun e w' => e = .returned (.string r) ∧ Below w.heap.size w w' := by
  unfold value_quoted.f at h
  by_cases hc : a0.size ≤ 60
  · rw [if_pos hc] at h
    obtain rfl := Option.some.inj h
    exact quoted_any a0 hc w
  · rw [if_neg hc] at h; cases h
end Go.Proofs.YtohbpgdhpfmlgaaDoor.PA
