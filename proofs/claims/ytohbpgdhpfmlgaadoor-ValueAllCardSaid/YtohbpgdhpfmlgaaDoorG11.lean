/- value.text: what stands between marks. -/
import Derived.Test.YtohbpgdhpfmlgaaDoorG10
namespace Go.Proofs.YtohbpgdhpfmlgaaDoor.PA
open Go.Shelf Go.RowKit Go.Lib Go.Proofs.YtohbpgdhpfmlgaaDoorW.PrintWords
set_option linter.unusedVariables false
set_option linter.unusedSimpArgs false
/-- The table lies, and two errors do. -/
structure LE (w : World) : Prop where
  tab : LT w
  e2 : ∃ ev, w.cell? ⟨2, 0, none⟩ = some ev ∧ (ev = .nilIface ∨ ∃ te pe, ev = .iface te pe)
  e3 : ∃ ev, w.cell? ⟨3, 0, none⟩ = some ev ∧ (ev = .nilIface ∨ ∃ te pe, ev = .iface te pe)
theorem LE.step {w w' : World} (h : LE w) (hb : Below w.heap.size w w') : LE w' := by
  obtain ⟨h1, ⟨a, ha, ha'⟩, ⟨b, hb1, hb'⟩⟩ := h
  exact ⟨h1.step hb, ⟨a, (hb.cell (World.block_lt_of_cell? _ _ ha)).trans ha, ha'⟩, ⟨b, (hb.cell (World.block_lt_of_cell? _ _ hb1)).trans hb1, hb'⟩⟩
set_option maxHeartbeats 4000000 in
set_option maxRecDepth 100000 in
theorem pub16 (s : ByteArray) (a b : UInt8) (hs : s.data.toList = [a, b]) (w : World) (HT : Aside0 (LE w)) :
    Calls Tryd.prog 31 #[.string s, .int .i64 16, .int .i64 8] w fun e w' => ∃ ev, e = .returned (.tuple #[.int .u64 (((hx2 a b).getD 0 : Nat) : Int), ev]) ∧ ((∃ n, hx2 a b = some n) ∧ ev = .nilIface ∨ hx2 a b = none ∧ ∃ p, ev = .iface 81 (.pointer (some p))) ∧ Below w.heap.size w w' := by
  have hsz : s.size ≤ 2 := by have := congrArg List.length hs; simp at this; omega
  cases hh : hx2 a b with
  | some n =>
    have HP := Aside0.mk (pu16 s a b hs w)
    rw [hh] at HP
    clear hs hh
    go_enter Tryd.func31, Tryd.ntmps31
    go_wp2_with fail
    refine HP.out.mono ?_
    rintro e w1 ⟨rfl, hb⟩
    have HB := Aside0.mk hb
    clear hb
    simp only [pu]
    go_wp2
    refine bodyPost_ret (v := .tuple #[.int .u64 n, .nilIface]) (by simp [results, Tryd.results31, go_sem]) rfl ⟨_, rfl, Or.inl ⟨⟨n, rfl⟩, rfl⟩, HB.out⟩
  | none =>
    have HP := Aside0.mk (pu16 s a b hs w)
    rw [hh] at HP
    clear hs hh
    go_enter Tryd.func31, Tryd.ntmps31
    go_wp2_with fail
    refine HP.out.mono ?_
    rintro e w1 ⟨rfl, hb⟩
    have HB := Aside0.mk hb
    obtain ⟨ev, hv, hev⟩ := (HT.out.step hb).e2
    have HV := Aside0.mk hv
    have HEV := Aside0.mk hev
    clear hb hv hev
    simp only [pu]
    go_wp2_with fail
    refine (Tryd.strconv_toError_syntax _ s 16 8 ev _ (by omega) HV.out HEV.out).mono ?_
    rintro e w2 ⟨N, rfl, _, _, hb⟩
    have HB2 := Aside0.mk (below_step HB.out hb)
    clear hb
    go_wp2
    refine bodyPost_ret (v := .tuple #[.int .u64 0, .iface 81 (.pointer (some ⟨N, 0, none⟩))]) (by simp [results, Tryd.results31, go_sem]) rfl ⟨_, rfl, Or.inr ⟨by first | trivial | rfl, _, rfl⟩, HB2.out⟩
theorem sz_mk (l : List UInt8) : (⟨l.toArray⟩ : ByteArray).size = l.length := by simp [ByteArray.size]
theorem wb2 (B b : Nat) (l : List UInt8) (c : Int) (d : UInt8) (hd : c = (d.toNat : Int)) (w : World) (h : Lib.IsBuilder 67 5 B b (Lib.byteCells l) w) (hlen : l.length ≤ 140737488351232) (hBw : B ≤ w.heap.size) :
    Calls Tryd.prog 43 #[.pointer (some ⟨b, 0, none⟩), .int .u8 c] w fun e w' => e = .returned .nilIface ∧ (Lib.IsBuilder 67 5 B b (Lib.byteCells (l ++ [d])) w' ∧ Below B w w' ∧ MK b w w') := by
  refine (writeByte B b _ c w h (by rw [Lib.byteCells_length]; omega) hBw).mono ?_
  rintro e w' ⟨rfl, h1, h2, h3⟩
  refine ⟨rfl, ?_, h2, h3⟩
  have e : Lib.byteCells (l ++ [d]) = Lib.byteCells l ++ [.int .u8 c] := by simp [Lib.byteCells, hd]
  rw [e]; exact h1
theorem at0 (s : ByteArray) (c : UInt8) (r : List UInt8) (h : s.data.toList = c :: r) (h0 : 0 < s.size) : s[0]'h0 = c := by
  have e : s.data.toList[0]? = some c := by rw [h]; rfl
  have e2 : s.data.toList[0]? = some (s[0]'h0) := by
    rw [List.getElem?_eq_getElem (by simpa using h0)]; rfl
  rw [e] at e2
  exact (Option.some.inj e2).symm
theorem ext_from (s : ByteArray) (k : Nat) : (s.extract k s.size).data.toList = s.data.toList.drop k := by
  rw [Lib.extract_data, List.take_of_length_le]
  have : s.data.toList.length = s.size := by simp
  rw [List.length_drop, this]
  exact Nat.le_refl _
/-- What the letters between marks say. -/
def unq : Nat → List UInt8 → Option (List UInt8)
  | 0, _ => none
  | _ + 1, [] => some []
  | k + 1, c :: r => if c.toNat = 92 then (match r with | a :: b :: r' => (hx2 a b).bind fun n => (unq k r').map (UInt8.ofNat n :: ·) | _ => none) else (unq k r).map (c :: ·)
theorem unq_more : ∀ (k m : Nat) (l : List UInt8), l.length < k → l.length < m → unq k l = unq m l
  | 0, _, _, h, _ => absurd h (by omega)
  | _, 0, _, _, h => absurd h (by omega)
  | k + 1, m + 1, [], _, _ => rfl
  | k + 1, m + 1, c :: r, h, h' => by
    simp only [List.length_cons] at h h'
    unfold unq
    split
    · match r, h, h' with
      | [], _, _ => rfl
      | [_], _, _ => rfl
      | a :: b :: r', h, h' =>
        simp only [List.length_cons] at h h'
        simp only [unq_more k m r' (by omega) (by omega)]
    · rw [unq_more k m r (by omega) (by omega)]
/-- What is left says what all says. -/
def Inv (res : List UInt8 × Bool) (mk : Bool) (acc rest : List UInt8) : Prop := res = match unq (rest.length + 1) rest with | some l => (acc ++ l, mk) | none => ([], false)
/-- What stands between two marks, and whether both are there. -/
def inner (s : ByteArray) : List UInt8 := Lib.trimSuffix (Lib.trimPrefix s.data.toList [34]) [34]
def marks (s : ByteArray) : Bool := Lib.hasPrefix s.data.toList [34] && Lib.hasSuffix (Lib.trimPrefix s.data.toList [34]) [34]
def textV (s : ByteArray) : List UInt8 × Bool := match unq (s.size + 1) (inner s) with | some l => (l, marks s) | none => ([], false)
theorem trimP_len (l : List UInt8) : (Lib.trimPrefix l [34]).length ≤ l.length := by
  unfold Lib.trimPrefix; split <;> simp
theorem trimS_len (l : List UInt8) : (Lib.trimSuffix l [34]).length ≤ l.length := by
  unfold Lib.trimSuffix; split <;> simp
set_option maxHeartbeats 8000000 in
set_option maxRecDepth 100000 in
theorem text_any (s : ByteArray) (hs : s.size ≤ 140737488351232) (w : World) (HT : Aside0 (LE w)) :
    Calls Tryd.prog 32 #[.string s] w fun e w' => e = .returned (.tuple #[.string ⟨(textV s).1.toArray⟩, .bool (textV s).2]) ∧ Below w.heap.size w w' := by
  have h1 := trimP_len s.data.toList
  have h2 := trimS_len (Lib.trimPrefix s.data.toList [34])
  have hin : (inner s).length ≤ s.size := by unfold inner; simp at h1; omega
  generalize hres : textV s = res
  have HRES := Aside0.mk hres
  have HIN := Aside0.mk hin
  have hp34 : (⟨#[34]⟩ : ByteArray).data.toList = [34] := rfl
  have HCP := Aside0.mk (Tryd.strings_CutPrefix s ⟨#[34]⟩)
  have HCS := Aside0.mk (Tryd.strings_CutSuffix ⟨(Lib.trimPrefix s.data.toList [34]).toArray⟩ ⟨#[34]⟩)
  rw [hp34] at HCP HCS
  clear hres hin h2 hp34
  have hsz1 : (⟨(Lib.trimPrefix s.data.toList [34]).toArray⟩ : ByteArray).size ≤ 9223372036854775807 := by
    rw [sz_mk]; have : s.data.toList.length = s.size := by simp
    omega
  have HSZ := Aside0.mk hsz1
  clear hsz1 h1
  go_enter Tryd.func32, Tryd.ntmps32
  go_wp2_with fail
  refine (HCP.out _).mono ?_
  rintro e w1 ⟨rfl, rfl⟩
  go_wp2_with fail
  refine (HCS.out _ HSZ.out).mono ?_
  rintro e w2 ⟨rfl, rfl⟩
  go_wp2_with fail
  have hsl : ∀ l : List UInt8, (⟨l.toArray⟩ : ByteArray).data.toList = l := fun l => rfl
  have HS4 := Aside0.mk (hsl (Lib.trimSuffix (Lib.trimPrefix s.data.toList [34]) [34]))
  generalize hs4 : (⟨(Lib.trimSuffix (Lib.trimPrefix s.data.toList [34]) [34]).toArray⟩ : ByteArray) = s4 at HS4 ⊢
  have HM := Aside0.mk (show marks s = (Lib.hasPrefix s.data.toList [34] && Lib.hasSuffix (Lib.trimPrefix s.data.toList [34]) [34]) from rfl)
  generalize Lib.hasPrefix s.data.toList [34] = okb at HM ⊢
  generalize Lib.hasSuffix (Lib.trimPrefix s.data.toList [34]) [34] = enb at HM ⊢
  have hsz4 : s4.size = (inner s).length := by rw [← hs4, sz_mk]; rfl
  have hle : s4.size ≤ s.size := by rw [hsz4]; exact HIN.out
  have HI0 := Aside0.mk (show Inv res (okb && enb) [] s4.data.toList from by
    unfold Inv
    rw [← HRES.out, ← HM.out]
    unfold textV
    rw [HS4.out]
    show (match unq (s.size + 1) (inner s) with | some l => (l, marks s) | none => ([], false)) = match unq ((inner s).length + 1) (inner s) with | some l => ([] ++ l, marks s) | none => ([], false)
    rw [unq_more (s.size + 1) ((inner s).length + 1) (inner s) (by have := HIN.out; omega) (by omega)]
    cases unq ((inner s).length + 1) (inner s) <;> rfl)
  clear hs4 hsz4 hsl HM HRES HIN HS4 HCP HCS HSZ
  have hb0 := Aside0.mk (show Lib.IsBuilder 67 5 w2.heap.size w2.heap.size (Lib.byteCells []) (w2.alloc (.cells #[.pointer none, .slice none 0 0] 67)) from
    .inl ⟨Nat.le_refl _, .slice none 0 0, blk_new w2 _, ⟨rfl, .inl ⟨rfl, rfl⟩⟩, by simp [Value.ownBlock]⟩)
  have HB0 := Aside0.mk (below_alloc (Below.refl w2.heap.size w2) (.cells #[.pointer none, .slice none 0 0] 67))
  generalize w2.alloc (.cells #[.pointer none, .slice none 0 0] 67) = w3 at hb0 HB0 ⊢
  generalize hg : w2.heap.size = g at hb0 HB0 ⊢
  have HG := Aside0.mk hg
  clear hg
  go_loopg [4] s4.size (fun kq v4 w' => ∃ (s5 : ByteArray) (acc : List UInt8), v4 = .string s5 ∧ Aside0 (s5.size ≤ kq) ∧ Aside0 (acc.length + s5.size ≤ s.size) ∧ Aside0 (Inv res (okb && enb) acc s5.data.toList) ∧ Aside0 (Lib.IsBuilder 67 5 g g (Lib.byteCells acc) w') ∧ Aside0 (Below g w2 w'))
  case atStart => exact ⟨s4, [], rfl, ⟨Nat.le_refl _⟩, ⟨by simpa using hle⟩, ⟨HI0.out⟩, ⟨hb0.out⟩, ⟨HB0.out⟩⟩
  case round =>
    obtain ⟨s5, acc, rfl, HK, HL, HI, HBL, HB⟩ := hrel
    clear HI0 hb0 HB0
    have hBn := HB.out.size
    have hgl := lt_of_bld HBL.out
    cases hl : s5.data.toList with
    | nil =>
      have hsz0 : s5.size = 0 := by have : s5.data.toList.length = s5.size := by simp
                                    rw [← this, hl]; rfl
      have hne : (s5.toList == []) = true := by rw [ByteArray.toList_eq, hl]; rfl
      have HI1 := Aside0.mk (show res = (acc, okb && enb) from by have := HI.out; rw [hl] at this; simpa [Inv, unq] using this)
      clear hl HI hsz0
      go_wp2_with fail
      refine (Tryd.Builder_String_any _ _ _ _ HBL.out (by omega)).mono ?_
      rintro e w4 ⟨rfl, hb4⟩
      have HB4 := Aside0.mk hb4
      clear hb4
      cases okb
      · go_wp2
        go_ret2
        exact ⟨by rw [HI1.out]; rfl, by rw [← HG.out] at HB HB4; exact HB.out.trans HB4.out⟩
      · go_wp2
        go_ret2
        exact ⟨by rw [HI1.out]; simp, by rw [← HG.out] at HB HB4; exact HB.out.trans HB4.out⟩
    | cons c r =>
      have hlen : s5.size = r.length + 1 := by
        have : s5.data.toList.length = s5.size := by simp
        rw [← this, hl]; rfl
      have h0 : 0 < s5.size := by omega
      have hne : (s5.toList == []) = false := by rw [ByteArray.toList_eq, hl]; rfl
      have hk := HK.out
      have hL := HL.out
      obtain ⟨f, rfl⟩ : ∃ f, gk = f + 1 := ⟨gk - 1, by omega⟩
      have hat := at0 s5 c r hl h0
      have HAT := Aside0.mk hat
      have HL5 := Aside0.mk hl
      have HLN := Aside0.mk hlen
      have hrl : r.length + 1 ≤ s5.size := by omega
      have hrl2 : s5.size ≤ r.length + 1 := by omega
      clear hat hl hlen
      by_cases hc : c.toNat = 92
      · have hcb : ((((s5[0]'h0).toNat : Nat) : Int) == 92) = true := by
          rw [HAT.out]
          have : ((c.toNat : Int) = 92) := by omega
          simpa using this
        match r, hrl, hrl2, HL5, HLN with
        | [], hrl, hrl2, HL5, HLN =>
          simp only [List.length_nil] at hrl hrl2
          have HI1 := Aside0.mk (show res = ([], false) from by
            have h := HI.out
            rw [HL5.out] at h
            unfold Inv at h
            rw [h]
            show (match unq 2 [c] with | some l => (acc ++ l, okb && enb) | none => ([], false)) = _
            rw [show unq 2 [c] = none from by unfold unq; rw [if_pos hc]])
          clear hc
          go_wp2
          go_ret2
          exact ⟨by rw [HI1.out]; rfl, by rw [HG.out]; exact HB.out⟩
        | [a], hrl, hrl2, HL5, HLN =>
          simp only [List.length_cons, List.length_nil] at hrl hrl2
          have HI1 := Aside0.mk (show res = ([], false) from by
            have h := HI.out
            rw [HL5.out] at h
            unfold Inv at h
            rw [h]
            show (match unq 3 [c, a] with | some l => (acc ++ l, okb && enb) | none => ([], false)) = _
            rw [show unq 3 [c, a] = none from by unfold unq; rw [if_pos hc]])
          clear hc
          go_wp2
          go_ret2
          exact ⟨by rw [HI1.out]; rfl, by rw [HG.out]; exact HB.out⟩
        | a :: b :: r', hrl, hrl2, HL5, HLN =>
          simp only [List.length_cons] at hrl hrl2
          have HE := Aside0.mk (show (s5.extract 1 3).data.toList = [a, b] from by rw [Lib.extract_data, HL5.out]; rfl)
          have HU := Aside0.mk (show unq ((c :: a :: b :: r').length + 1) (c :: a :: b :: r') = (hx2 a b).bind fun n => (unq (r'.length + 1) r').map (UInt8.ofNat n :: ·) from by
            conv => lhs; unfold unq; simp only [List.length_cons]; rw [if_pos hc]
            rw [unq_more (r'.length + 1 + 1 + 1) (r'.length + 1) r' (by omega) (by omega)])
          clear hc
          go_wp2_with fail
          refine (pub16 _ a b HE.out _ ⟨HT.out.step (by rw [HG.out]; exact HB.out)⟩).mono ?_
          rintro e w4 ⟨ev, rfl, hev, hb4⟩
          have HB4 := Aside0.mk (HB.out.trans (hb4.mono (by omega)))
          have hz4 := hb4.size
          have HBL4 := Aside0.mk (bld_keep HBL.out hb4)
          clear hb4
          rcases hev with ⟨⟨n, hn⟩, rfl⟩ | ⟨hn, p, rfl⟩
          · have hn256 : n < 256 := by
              unfold hx2 at hn
              cases h1 : hx a with
              | none => rw [h1] at hn; cases hn
              | some x =>
                rw [h1] at hn
                cases h2 : hx b with
                | none => rw [h2] at hn; cases hn
                | some y =>
                  rw [h2] at hn
                  have hn' : x * 16 + y = n := Option.some.inj hn
                  have := hx_lt h1; have := hx_lt h2; omega
            have hw8 : IntKind.u8.wrap (n : Int) = (n : Int) := by rw [IntKind.wrap_u8]; omega
            have HI1 := Aside0.mk (show Inv res (okb && enb) (acc ++ [UInt8.ofNat n]) r' from by
              have h := HI.out
              rw [HL5.out] at h
              unfold Inv at h ⊢
              rw [h, HU.out, hn]
              show (match ((unq (r'.length + 1) r').map (UInt8.ofNat n :: ·)) with | some l => (acc ++ l, okb && enb) | none => ([], false)) = _
              cases unq (r'.length + 1) r' <;> simp)
            have HON := Aside0.mk (show ((UInt8.ofNat n).toNat : Int) = (n : Int) from by simp [UInt8.toNat_ofNat']; omega)
            rw [hn]
            clear hn
            simp only [Option.getD_some]
            go_upto_region 13 with fail
            go_quiet (fail)
            go_wp2_with fail
            refine (wb2 _ _ acc _ (UInt8.ofNat n) HON.out.symm _ (bld_keep HBL4.out (pw_below_drewN (Below.refl _ _) _)) (by omega) (by show g ≤ w4.heap.size; omega)).mono ?_
            rintro e w5 ⟨rfl, hb5, hB5, _⟩
            have HBL5 := Aside0.mk hb5
            have HB5 := Aside0.mk (HB4.out.trans ((pw_below_drewN (Below.refl g w4) nq).trans hB5))
            clear hb5 hB5
            go_wp2
            go_roundg f
            case measure => omega
            case rel =>
              refine ⟨_, acc ++ [UInt8.ofNat n], rfl, ⟨by simp; omega⟩, ⟨by simp; omega⟩, ⟨?_⟩, ⟨HBL5.out⟩, ⟨HB5.out⟩⟩
              have e : ((s5.extract 2 s5.size).extract 1 (s5.size - 2)).data.toList = r' := by
                rw [Lib.extract_data, ext_from, HL5.out]
                have hl : s5.size - 2 - 1 = r'.length := by omega
                rw [hl]
                simp
              first
              | (rw [e]; exact HI1.out)
              | trace_state
          · have HI1 := Aside0.mk (show res = ([], false) from by
              have h := HI.out
              rw [HL5.out] at h
              unfold Inv at h
              rw [h, HU.out, hn]; rfl)
            rw [hn]
            clear hn
            go_wp2
            go_ret2
            exact ⟨by rw [HI1.out]; rfl, by rw [HG.out]; exact HB4.out⟩
      · have hcb : ((((s5[0]'h0).toNat : Nat) : Int) == 92) = false := by
          rw [HAT.out]
          have : ¬ ((c.toNat : Int) = 92) := by omega
          simpa using this
        have HI1 := Aside0.mk (show Inv res (okb && enb) (acc ++ [c]) r from by
          have h := HI.out
          rw [HL5.out] at h
          unfold Inv at h ⊢
          rw [h]
          show (match unq (r.length + 2) (c :: r) with | some l => (acc ++ l, okb && enb) | none => ([], false)) = _
          rw [show unq (r.length + 2) (c :: r) = (unq (r.length + 1) r).map (c :: ·) from by conv => lhs; unfold unq; rw [if_neg hc]]
          cases unq (r.length + 1) r <;> simp)
        clear hc
        go_wp2_with fail
        refine (wb2 _ _ acc _ c (by rw [HAT.out]) _ HBL.out (by omega) (by omega)).mono ?_
        rintro e w4 ⟨rfl, hb4, hB4, _⟩
        have HBL4 := Aside0.mk hb4
        have HB4 := Aside0.mk hB4
        clear hb4 hB4
        go_wp2
        go_roundg f
        case measure => omega
        case rel => exact ⟨_, acc ++ [c], rfl, ⟨by simp; omega⟩, ⟨by simp; omega⟩, ⟨by rw [ext_from, HL5.out]; exact HI1.out⟩, ⟨HBL4.out⟩, ⟨HB.out.trans HB4.out⟩⟩
end Go.Proofs.YtohbpgdhpfmlgaaDoor.PA
