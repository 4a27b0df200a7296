/- thresherref19.Fit makes filters fit a schema: each of the first ones by itself. -/
import Derived.Test.YtohbpgdhpfmlgaaG4
import Derived.Test.YtohbpgdhpfmlgaaWMore
import Derived.Deep.DeepCutAuto
import Derived.Deep.CutBlock
namespace Go.Proofs.Ytohbpgdhpfmlgaa.PA
set_option linter.unusedVariables false
set_option linter.unusedSimpArgs false
open Go.RowKit Go.Proofs.YtohbpgdhpfmlgaaW.PrintWords Go.Proofs.YtohbpgdhpfmlgaaW.PrintLast Go.Proofs.YtohbpgdhpfmlgaaW.PrintMore
attribute [local go_sem] max2_int min2_int max_two min_two

def fitOne (types : List Int) (f : S28) : S28 :=
  if rd types (f.f0 % (types.length : Int)) = 3 then ⟨f.f0 % (types.length : Int), 1 + f.f1 % 7, ⟨0, f.f2.f1.extract 0 (min f.f2.f1.size 60)⟩⟩
  else ⟨f.f0 % (types.length : Int), if 1 + f.f1 % 7 = 7 then 1 else 1 + f.f1 % 7, ⟨f.f2.f0, ⟨#[]⟩⟩⟩
def okInt (x : Int) : Bool := decide (-9223372036854775808 ≤ x) && decide (x ≤ 9223372036854775807)
def thresherref19_Fit.f (l0_0 : List Int) (a0_1 a0_2 a0_3 : Int) (l1 : List S28) (a2 : Int) : Option (List S28) :=
  if 0 < l0_0.length ∧ l0_0.length ≤ 100 ∧ 0 ≤ a2 ∧ a2 ≤ 100 ∧ (l1.all fun f => okInt f.f0 && okInt f.f1) = true then some ((l1.take a2.toNat).map (fitOne l0_0)) else none
theorem R_empty {α : Type} (d : Kd α) (W : World) (base e : Nat) (hb : base ≤ W.heap.size) : d.R e (W.alloc (.cells #[] e)) base (fun _ => True) (.slice (some ⟨W.heap.size, 0, none⟩) 0 0) [] :=
  ⟨fun _ _ => trivial, OwnRow.lit (ps := []) (inner := []) W base (Reps.none _ _) hb (by simp)⟩
theorem fitOne_def (types : List Int) (f : S28) : fitOne types f = if rd types (f.f0 % (types.length : Int)) = 3 then ⟨f.f0 % (types.length : Int), 1 + f.f1 % 7, ⟨0, f.f2.f1.extract 0 (min f.f2.f1.size 60)⟩⟩
    else ⟨f.f0 % (types.length : Int), if 1 + f.f1 % 7 = 7 then 1 else 1 + f.f1 % 7, ⟨f.f2.f0, ⟨#[]⟩⟩⟩ := rfl
theorem extract_all (s : ByteArray) : s.extract 0 s.size = s := by
  apply ByteArray.ext
  simp
theorem rdT28_at' (l : List S28) (j : Nat) (h : j < l.length) : rd_T28 l (j : Int) = l[j] := by
  unfold rd_T28
  rw [Int.toNat_natCast, List.getD_eq_getElem?_getD, List.getElem?_eq_getElem h]; rfl
theorem tmod_add (x n : Int) (hn : 0 < n) : (if x.tmod n < 0 then x.tmod n + n else x.tmod n) = x % n := by
  rcases Int.lt_or_le x 0 with h | h
  · have h1 : x.tmod n = -((-x) % n) := by
      rw [← Int.tmod_eq_emod_of_nonneg (by omega), Int.neg_tmod, Int.neg_neg]
    have h2 := Int.emod_nonneg (-x) (by omega : n ≠ 0)
    have h3 := Int.emod_lt_of_pos (-x) hn
    rw [h1]
    split
    · rw [Int.emod_def x n, Int.emod_def (-x) n] at *
      have h4 : (-x) - n * ((-x) / n) > 0 := by omega
      have h5 : x / n = -((-x) / n) - 1 := by
        refine Int.ediv_eq_iff_of_pos hn |>.2 ?_
        constructor <;> rw [Int.sub_mul, Int.neg_mul, Int.mul_comm ((-x) / n) n] <;> omega
      rw [h5]
      rw [Int.mul_sub, Int.mul_neg]
      omega
    · have h4 : (-x) % n = 0 := by omega
      have h5 := Int.dvd_of_emod_eq_zero h4
      have h6 : n ∣ x := by rwa [Int.dvd_neg] at h5
      rw [Int.emod_eq_zero_of_dvd h6]
      omega
  · rw [Int.tmod_eq_emod_of_nonneg h, if_neg (by have := Int.emod_nonneg x (by omega : n ≠ 0); omega)]
set_option maxHeartbeats 4000000 in
set_option maxRecDepth 100000 in
theorem thresherref19_Fit.calls (A0_0 : Option Addr) (c0_0 : Nat) (l0_0 : List Int) (a0_1 a0_2 a0_3 : Int) (A1 : Option Addr) (c1 : Nat) (l1 : List S28) (a2 : Int) (r : List S28) (w : World) (hr0_0 : Kd.C (Kd.int .i64) w A0_0 l0_0.length l0_0) (hc0_0 : l0_0.length ≤ c0_0)
    (hr1 : Kd.C k28 w A1 l1.length l1) (hc1 : l1.length ≤ c1) (h : thresherref19_Fit.f l0_0 a0_1 a0_2 a0_3 l1 a2 = some r) :
    Calls Try.prog 13 #[.agg #[.slice A0_0 l0_0.length c0_0, .int .i64 a0_1, .int .i64 a0_2, .int .i64 a0_3], .slice A1 l1.length c1, .int .i64 a2] w fun e w' => ∃ v0_ : Value, e = .returned (v0_) ∧ Kd.R k28 28 w' w.heap.size (fun _ => True) v0_ r ∧ Below w.heap.size w w' := by
  have HR0 := Aside0.mk hr0_0
  have HR1 := Aside0.mk hr1
  clear hr0_0 hr1 hc0_0 hc1
  unfold thresherref19_Fit.f at h
  split at h
  · rename_i hg
    obtain ⟨hn0, hn1, ha0, ha1, hall⟩ := hg
    have HRES := Aside0.mk (Option.some.inj h)
    have HALL := Aside0.mk hall
    have HL1 := Aside0.mk HR1.out.2.1
    clear h hall
    go_enter Try.func13, Try.ntmps13
    go_wp2
    go_loopg [7, 8] l1.length (fun kq v7 v8 w' => ∃ (i : Nat), v8 = .int .i64 i ∧ Aside0 (i + kq = l1.length) ∧ Aside0 ((i : Int) ≤ a2) ∧
      Aside0 (w'.heap[w.heap.size]? = some (.cells #[.slice A0_0 l0_0.length c0_0, .int .i64 a0_1, .int .i64 a0_2, .int .i64 a0_3] 34 (0, 0))) ∧
      Aside0 (Kd.R k28 28 w' w.heap.size (fun _ => True) v7 ((l1.take i).map (fitOne l0_0))) ∧ Aside0 (Below w.heap.size w w'))
    case atStart =>
      refine ⟨0, rfl, ⟨by omega⟩, ⟨by omega⟩, ⟨blk_alloc (by simpa using blk_new w _) _⟩, ⟨?_⟩, ⟨below_alloc (below_alloc (Below.refl _ _) _) _⟩⟩
      have h1 := R_empty k28 (w.alloc (.cells #[.slice A0_0 l0_0.length c0_0, .int .i64 a0_1, .int .i64 a0_2, .int .i64 a0_3] 34)) w.heap.size 28 (by simp)
      simpa using h1
    case round =>
      obtain ⟨i, rfl, HQ, HA, BS, HO, HB⟩ := hrel
      by_cases hi : i < l1.length
      · by_cases hia : (i : Int) < a2
        · have hall := List.all_eq_true.1 HALL.out _ (List.getElem_mem hi)
          have hl1 := HL1.out
          obtain ⟨adf, ef, hf0, hf1, hf2, hf3⟩ := at_T28 HR1.out (i : Int) (by omega) (by omega)
          cases ef
          rw [rdT28_at' l1 i hi] at hf0 hf1 hf2 hf3
          have hsn : (l1.take (i + 1)).map (fitOne l0_0) = (l1.take i).map (fitOne l0_0) ++ [fitOne l0_0 l1[i]] := by rw [List.take_succ_eq_append_getElem hi, List.map_append]; rfl
          generalize l1[i] = f at hall hf0 hf1 hf2 hf3 hsn
          have HSN := Aside0.mk hsn
          clear hsn
          simp only [okInt, Bool.and_eq_true, decide_eq_true_eq] at hall
          obtain ⟨⟨g0, g1⟩, g2, g3⟩ := hall
          replace hf0 := (HB.out.cell (World.block_lt_of_cell? w _ hf0)).trans hf0
          replace hf1 := (HB.out.cell (World.block_lt_of_cell? w _ hf1)).trans hf1
          replace hf2 := (HB.out.cell (World.block_lt_of_cell? w _ hf2)).trans hf2
          replace hf3 := (HB.out.cell (World.block_lt_of_cell? w _ hf3)).trans hf3
          rw [Int.toNat_natCast] at hf0 hf1 hf2 hf3
          have hcol0 := Int.emod_nonneg f.f0 (show (l0_0.length : Int) ≠ 0 by omega)
          have hcol1 := Int.emod_lt_of_pos f.f0 (show 0 < (l0_0.length : Int) by omega)
          obtain ⟨ad0, e0, ht⟩ := Kd.at_int HR0.out (f.f0 % (l0_0.length : Int)) hcol0 hcol1
          cases e0
          replace ht := (HB.out.cell (World.block_lt_of_cell? w _ ht)).trans ht
          have c30 : wr.cell? ⟨w.heap.size, 0, none⟩ = some (.slice (some ad0) l0_0.length c0_0) := (blk_cell BS.out 0).trans rfl
          have hne : ¬ (l0_0 = []) := by intro e; rw [e] at hn0; simp at hn0
          have hi0 : (0 : Int) ≤ (i : Int) := by omega
          have hi1 : (i : Int) < (l1.length : Int) := by omega
          have hi2 : decide ((i : Int) < (l1.length : Int)) = true := decide_eq_true hi1
          have hi3 : decide ((i : Int) < a2) = true := decide_eq_true hia
          have htm := tmod_add f.f0 (l0_0.length : Int) (by omega)
          have htb := Int.tmod_lt_of_pos f.f0 (show 0 < (l0_0.length : Int) by omega)
          have htc : -(l0_0.length : Int) ≤ f.f0.tmod (l0_0.length : Int) := by have := htm; split at this <;> omega
          have htm7 := tmod_add f.f1 7 (by omega)
          have htb7 := Int.tmod_lt_of_pos f.f1 (show (0 : Int) < 7 by omega)
          have htc7 : -7 ≤ f.f1.tmod 7 := by have := htm7; split at this <;> omega
          have hop0 := Int.emod_nonneg f.f1 (show (7 : Int) ≠ 0 by omega)
          have hop1 := Int.emod_lt_of_pos f.f1 (show (0 : Int) < 7 by omega)
          have HTM := Aside0.mk htm
          have HTM7 := Aside0.mk htm7
          clear htm htm7
          go_wp2
          go_quiet (fail)
          go_upto_if 35 with (fail)
          go_cut [9] (fun v9 wc => v9 = .int .i64 (f.f0 % (l0_0.length : Int)) ∧ Drawn0 wr wc)
          case first =>
            by_cases hneg : f.f0.tmod (l0_0.length : Int) < 0
            · have he : f.f0.tmod (l0_0.length : Int) + (l0_0.length : Int) = f.f0 % (l0_0.length : Int) := by have := HTM.out; rwa [if_pos hneg] at this
              have HE := Aside0.mk he
              clear he
              go_wp2
              go_meet
              case rel => exact ⟨by rw [HE.out], ⟨⟨_, rfl⟩⟩⟩
            · have he : f.f0.tmod (l0_0.length : Int) = f.f0 % (l0_0.length : Int) := by have := HTM.out; rwa [if_neg hneg] at this
              have HE := Aside0.mk he
              clear he
              go_wp2
              go_meet
              case rel => exact ⟨by rw [HE.out], ⟨⟨_, rfl⟩⟩⟩
          case rest =>
            obtain ⟨rfl, ⟨m, hW1⟩⟩ := hcut
            have hcell : ∀ p, wc.cell? p = wr.cell? p := by subst hW1; exact fun _ => rfl
            replace hf1 := (hcell _).trans hf1
            replace hf2 := (hcell _).trans hf2
            replace hf3 := (hcell _).trans hf3
            replace ht := (hcell _).trans ht
            replace c30 := (hcell _).trans c30
            replace BS := Aside0.mk (show wc.heap[w.heap.size]? = some (.cells #[.slice (some ad0) l0_0.length c0_0, .int .i64 a0_1, .int .i64 a0_2, .int .i64 a0_3] 34 (0, 0)) by subst hW1; exact BS.out)
            replace HO := Aside0.mk (show Kd.R k28 28 wc w.heap.size (fun _ => True) u7 ((l1.take i).map (fitOne l0_0)) by subst hW1; exact Kd.R_drewN HO.out _)
            replace HB := Aside0.mk (show Below w.heap.size w wc by subst hW1; exact pw_below_drewN HB.out _)
            clear hW1 hf0 hcell
            have hf3a : ∀ o, (wc.alloc o).cell? _ = _ := fun o => (World.cell?_alloc_lt _ _ _ (World.block_lt_of_cell? _ _ hf3)).trans hf3
            have hta : ∀ o, (wc.alloc o).cell? _ = _ := fun o => (World.cell?_alloc_lt _ _ _ (World.block_lt_of_cell? _ _ ht)).trans ht
            have c30a : ∀ o, (wc.alloc o).cell? _ = _ := fun o => (World.cell?_alloc_lt _ _ _ (World.block_lt_of_cell? _ _ c30)).trans c30
            go_upto_if 48 with (fail)
            go_cut [10] (fun v10 wd => v10 = .int .i64 (f.f1 % 7) ∧ Aside0 (wd = wc))
            case first =>
              by_cases hneg : f.f1.tmod 7 < 0
              · have he : f.f1.tmod 7 + 7 = f.f1 % 7 := by have := HTM7.out; rwa [if_pos hneg] at this
                have HE := Aside0.mk he
                clear he
                go_wp2
                go_meet
                case rel => exact ⟨by rw [HE.out], ⟨rfl⟩⟩
              · have he : f.f1.tmod 7 = f.f1 % 7 := by have := HTM7.out; rwa [if_neg hneg] at this
                have HE := Aside0.mk he
                clear he
                go_wp2
                go_meet
                case rel => exact ⟨by rw [HE.out], ⟨rfl⟩⟩
            case rest =>
              obtain ⟨rfl, ⟨rfl⟩⟩ := hcut
              have HLX := Aside0.mk (show (((l1.take i).map (fitOne l0_0)).length + 1) * 40 ≤ 140737488355328 by rw [List.length_map, List.length_take]; omega)
              have hdef := fitOne_def l0_0 f
              by_cases htx : rd l0_0 (f.f0 % (l0_0.length : Int)) = 3
              · have htx0 : (rd l0_0 (f.f0 % (l0_0.length : Int)) == 3) = true := beq_iff_eq.2 htx
                rw [if_pos htx] at hdef
                clear htx
                by_cases h60 : 60 < f.f2.f1.size
                · rw [Nat.min_eq_right (by omega)] at hdef
                  have HM := Aside0.mk (show ∀ (W : World) (base : Nat) (ok : Nat → Prop), k28.M W base ok (fitOne l0_0 f) [.int .i64 (f.f0 % (l0_0.length : Int)), .int .i64 (1 + f.f1 % 7), .int .i64 0, .string (f.f2.f1.extract 0 60)] from fun W base ok => by rw [hdef]; exact k28_mkM W base ok _)
                  clear hdef
                  go_wp2_with ((with_reducible refine gate_builtin (b := .append) (xs := #[.tmp 85, .tmp 87]) rfl ?_); at_builtin; refine Kd.R_append k28 (w0 := w) w.heap.size (by rfl) (.tmp 85) (.tmp 87) 37 28 (.agg #[.int .i64 0, .int .i64 0, .int .i64 0, .string ⟨#[]⟩]) 40 (by rfl) Try.underlying37 info28 rfl (by decide) (by decide) u7 ((l1.take i).map (fitOne l0_0)) (fitOne l0_0 f) [.int .i64 (f.f0 % (l0_0.length : Int)), .int .i64 (1 + f.f1 % 7), .int .i64 0, .string (f.f2.f1.extract 0 60)] (fun _ => True) (fun k => some k ≠ u7.ownBlock) (by rfl) (by show Value.slice (some ⟨wc.heap.size + 1, 0, none⟩) 1 1 = _; simp) (HM.out _ _ _) (fun _ hk => ⟨trivial, hk⟩) (fun _ _ => trivial) (Kd.R_alloc HO.out (.cells #[.int .i64 (f.f0 % (l0_0.length : Int)), .int .i64 (1 + f.f1 % 7), .int .i64 0, .string (f.f2.f1.extract 0 60)] 28)) (below_alloc HB.out (.cells #[.int .i64 (f.f0 % (l0_0.length : Int)), .int .i64 (1 + f.f1 % 7), .int .i64 0, .string (f.f2.f1.extract 0 60)] 28)) (below_alloc HB.out (.cells #[.int .i64 (f.f0 % (l0_0.length : Int)), .int .i64 (1 + f.f1 % 7), .int .i64 0, .string (f.f2.f1.extract 0 60)] 28)).size HLX.out ?_; intro v1 w1 ho1 hb1 hg1 hat1; have HO1 := Aside0.mk ho1; have HB1 := Aside0.mk hb1; have BS1 := Aside0.mk (blk_grown (blk_alloc BS.out (.cells #[.int .i64 (f.f0 % (l0_0.length : Int)), .int .i64 (1 + f.f1 % 7), .int .i64 0, .string (f.f2.f1.extract 0 60)] 28)) hg1 (Kd.R_ne (Kd.R_alloc HO.out (.cells #[.int .i64 (f.f0 % (l0_0.length : Int)), .int .i64 (1 + f.f1 % 7), .int .i64 0, .string (f.f2.f1.extract 0 60)] 28)) (blk_alloc BS.out (.cells #[.int .i64 (f.f0 % (l0_0.length : Int)), .int .i64 (1 + f.f1 % 7), .int .i64 0, .string (f.f2.f1.extract 0 60)] 28)) (by decide))); clear ho1 hb1 hg1 hat1)
                  obtain ⟨q, rfl⟩ : ∃ q, gk = q + 1 := ⟨gk - 1, by have := HQ.out; omega⟩
                  go_roundg q
                  case measure => omega
                  case rel => exact ⟨i + 1, by go_num, ⟨by have := HQ.out; omega⟩, ⟨by omega⟩, ⟨BS1.out⟩, ⟨by rw [HSN.out]; exact HO1.out⟩, ⟨HB1.out⟩⟩
                · rw [Nat.min_eq_left (by omega), extract_all] at hdef
                  have HM := Aside0.mk (show ∀ (W : World) (base : Nat) (ok : Nat → Prop), k28.M W base ok (fitOne l0_0 f) [.int .i64 (f.f0 % (l0_0.length : Int)), .int .i64 (1 + f.f1 % 7), .int .i64 0, .string f.f2.f1] from fun W base ok => by rw [hdef]; exact k28_mkM W base ok _)
                  clear hdef
                  go_wp2_with ((with_reducible refine gate_builtin (b := .append) (xs := #[.tmp 85, .tmp 87]) rfl ?_); at_builtin; refine Kd.R_append k28 (w0 := w) w.heap.size (by rfl) (.tmp 85) (.tmp 87) 37 28 (.agg #[.int .i64 0, .int .i64 0, .int .i64 0, .string ⟨#[]⟩]) 40 (by rfl) Try.underlying37 info28 rfl (by decide) (by decide) u7 ((l1.take i).map (fitOne l0_0)) (fitOne l0_0 f) [.int .i64 (f.f0 % (l0_0.length : Int)), .int .i64 (1 + f.f1 % 7), .int .i64 0, .string f.f2.f1] (fun _ => True) (fun k => some k ≠ u7.ownBlock) (by rfl) (by show Value.slice (some ⟨wc.heap.size + 1, 0, none⟩) 1 1 = _; simp) (HM.out _ _ _) (fun _ hk => ⟨trivial, hk⟩) (fun _ _ => trivial) (Kd.R_alloc HO.out (.cells #[.int .i64 (f.f0 % (l0_0.length : Int)), .int .i64 (1 + f.f1 % 7), .int .i64 0, .string f.f2.f1] 28)) (below_alloc HB.out (.cells #[.int .i64 (f.f0 % (l0_0.length : Int)), .int .i64 (1 + f.f1 % 7), .int .i64 0, .string f.f2.f1] 28)) (below_alloc HB.out (.cells #[.int .i64 (f.f0 % (l0_0.length : Int)), .int .i64 (1 + f.f1 % 7), .int .i64 0, .string f.f2.f1] 28)).size HLX.out ?_; intro v1 w1 ho1 hb1 hg1 hat1; have HO1 := Aside0.mk ho1; have HB1 := Aside0.mk hb1; have BS1 := Aside0.mk (blk_grown (blk_alloc BS.out (.cells #[.int .i64 (f.f0 % (l0_0.length : Int)), .int .i64 (1 + f.f1 % 7), .int .i64 0, .string f.f2.f1] 28)) hg1 (Kd.R_ne (Kd.R_alloc HO.out (.cells #[.int .i64 (f.f0 % (l0_0.length : Int)), .int .i64 (1 + f.f1 % 7), .int .i64 0, .string f.f2.f1] 28)) (blk_alloc BS.out (.cells #[.int .i64 (f.f0 % (l0_0.length : Int)), .int .i64 (1 + f.f1 % 7), .int .i64 0, .string f.f2.f1] 28)) (by decide))); clear ho1 hb1 hg1 hat1)
                  obtain ⟨q, rfl⟩ : ∃ q, gk = q + 1 := ⟨gk - 1, by have := HQ.out; omega⟩
                  go_roundg q
                  case measure => omega
                  case rel => exact ⟨i + 1, by go_num, ⟨by have := HQ.out; omega⟩, ⟨by omega⟩, ⟨BS1.out⟩, ⟨by rw [HSN.out]; exact HO1.out⟩, ⟨HB1.out⟩⟩
              · have htx0 : (rd l0_0 (f.f0 % (l0_0.length : Int)) == 3) = false := beq_eq_false_iff_ne.2 htx
                rw [if_neg htx] at hdef
                clear htx
                by_cases h7 : 1 + f.f1 % 7 = 7
                · have h70 : (1 + f.f1 % 7 == 7) = true := beq_iff_eq.2 h7
                  rw [if_pos h7] at hdef
                  clear h7
                  have HM := Aside0.mk (show ∀ (W : World) (base : Nat) (ok : Nat → Prop), k28.M W base ok (fitOne l0_0 f) [.int .i64 (f.f0 % (l0_0.length : Int)), .int .i64 1, .int .i64 f.f2.f0, .string ⟨#[]⟩] from fun W base ok => by rw [hdef]; exact k28_mkM W base ok _)
                  clear hdef
                  go_wp2_with ((with_reducible refine gate_builtin (b := .append) (xs := #[.tmp 85, .tmp 87]) rfl ?_); at_builtin; refine Kd.R_append k28 (w0 := w) w.heap.size (by rfl) (.tmp 85) (.tmp 87) 37 28 (.agg #[.int .i64 0, .int .i64 0, .int .i64 0, .string ⟨#[]⟩]) 40 (by rfl) Try.underlying37 info28 rfl (by decide) (by decide) u7 ((l1.take i).map (fitOne l0_0)) (fitOne l0_0 f) [.int .i64 (f.f0 % (l0_0.length : Int)), .int .i64 1, .int .i64 f.f2.f0, .string ⟨#[]⟩] (fun _ => True) (fun k => some k ≠ u7.ownBlock) (by rfl) (by show Value.slice (some ⟨wc.heap.size + 1, 0, none⟩) 1 1 = _; simp) (HM.out _ _ _) (fun _ hk => ⟨trivial, hk⟩) (fun _ _ => trivial) (Kd.R_alloc HO.out (.cells #[.int .i64 (f.f0 % (l0_0.length : Int)), .int .i64 1, .int .i64 f.f2.f0, .string ⟨#[]⟩] 28)) (below_alloc HB.out (.cells #[.int .i64 (f.f0 % (l0_0.length : Int)), .int .i64 1, .int .i64 f.f2.f0, .string ⟨#[]⟩] 28)) (below_alloc HB.out (.cells #[.int .i64 (f.f0 % (l0_0.length : Int)), .int .i64 1, .int .i64 f.f2.f0, .string ⟨#[]⟩] 28)).size HLX.out ?_; intro v1 w1 ho1 hb1 hg1 hat1; have HO1 := Aside0.mk ho1; have HB1 := Aside0.mk hb1; have BS1 := Aside0.mk (blk_grown (blk_alloc BS.out (.cells #[.int .i64 (f.f0 % (l0_0.length : Int)), .int .i64 1, .int .i64 f.f2.f0, .string ⟨#[]⟩] 28)) hg1 (Kd.R_ne (Kd.R_alloc HO.out (.cells #[.int .i64 (f.f0 % (l0_0.length : Int)), .int .i64 1, .int .i64 f.f2.f0, .string ⟨#[]⟩] 28)) (blk_alloc BS.out (.cells #[.int .i64 (f.f0 % (l0_0.length : Int)), .int .i64 1, .int .i64 f.f2.f0, .string ⟨#[]⟩] 28)) (by decide))); clear ho1 hb1 hg1 hat1)
                  obtain ⟨q, rfl⟩ : ∃ q, gk = q + 1 := ⟨gk - 1, by have := HQ.out; omega⟩
                  go_roundg q
                  case measure => omega
                  case rel => exact ⟨i + 1, by go_num, ⟨by have := HQ.out; omega⟩, ⟨by omega⟩, ⟨BS1.out⟩, ⟨by rw [HSN.out]; exact HO1.out⟩, ⟨HB1.out⟩⟩
                · have h70 : (1 + f.f1 % 7 == 7) = false := beq_eq_false_iff_ne.2 h7
                  rw [if_neg h7] at hdef
                  clear h7
                  have HM := Aside0.mk (show ∀ (W : World) (base : Nat) (ok : Nat → Prop), k28.M W base ok (fitOne l0_0 f) [.int .i64 (f.f0 % (l0_0.length : Int)), .int .i64 (1 + f.f1 % 7), .int .i64 f.f2.f0, .string ⟨#[]⟩] from fun W base ok => by rw [hdef]; exact k28_mkM W base ok _)
                  clear hdef
                  go_wp2_with ((with_reducible refine gate_builtin (b := .append) (xs := #[.tmp 85, .tmp 87]) rfl ?_); at_builtin; refine Kd.R_append k28 (w0 := w) w.heap.size (by rfl) (.tmp 85) (.tmp 87) 37 28 (.agg #[.int .i64 0, .int .i64 0, .int .i64 0, .string ⟨#[]⟩]) 40 (by rfl) Try.underlying37 info28 rfl (by decide) (by decide) u7 ((l1.take i).map (fitOne l0_0)) (fitOne l0_0 f) [.int .i64 (f.f0 % (l0_0.length : Int)), .int .i64 (1 + f.f1 % 7), .int .i64 f.f2.f0, .string ⟨#[]⟩] (fun _ => True) (fun k => some k ≠ u7.ownBlock) (by rfl) (by show Value.slice (some ⟨wc.heap.size + 1, 0, none⟩) 1 1 = _; simp) (HM.out _ _ _) (fun _ hk => ⟨trivial, hk⟩) (fun _ _ => trivial) (Kd.R_alloc HO.out (.cells #[.int .i64 (f.f0 % (l0_0.length : Int)), .int .i64 (1 + f.f1 % 7), .int .i64 f.f2.f0, .string ⟨#[]⟩] 28)) (below_alloc HB.out (.cells #[.int .i64 (f.f0 % (l0_0.length : Int)), .int .i64 (1 + f.f1 % 7), .int .i64 f.f2.f0, .string ⟨#[]⟩] 28)) (below_alloc HB.out (.cells #[.int .i64 (f.f0 % (l0_0.length : Int)), .int .i64 (1 + f.f1 % 7), .int .i64 f.f2.f0, .string ⟨#[]⟩] 28)).size HLX.out ?_; intro v1 w1 ho1 hb1 hg1 hat1; have HO1 := Aside0.mk ho1; have HB1 := Aside0.mk hb1; have BS1 := Aside0.mk (blk_grown (blk_alloc BS.out (.cells #[.int .i64 (f.f0 % (l0_0.length : Int)), .int .i64 (1 + f.f1 % 7), .int .i64 f.f2.f0, .string ⟨#[]⟩] 28)) hg1 (Kd.R_ne (Kd.R_alloc HO.out (.cells #[.int .i64 (f.f0 % (l0_0.length : Int)), .int .i64 (1 + f.f1 % 7), .int .i64 f.f2.f0, .string ⟨#[]⟩] 28)) (blk_alloc BS.out (.cells #[.int .i64 (f.f0 % (l0_0.length : Int)), .int .i64 (1 + f.f1 % 7), .int .i64 f.f2.f0, .string ⟨#[]⟩] 28)) (by decide))); clear ho1 hb1 hg1 hat1)
                  obtain ⟨q, rfl⟩ : ∃ q, gk = q + 1 := ⟨gk - 1, by have := HQ.out; omega⟩
                  go_roundg q
                  case measure => omega
                  case rel => exact ⟨i + 1, by go_num, ⟨by have := HQ.out; omega⟩, ⟨by omega⟩, ⟨BS1.out⟩, ⟨by rw [HSN.out]; exact HO1.out⟩, ⟨HB1.out⟩⟩
        · have hl1 := HL1.out
          have e2 : (i : Int) = a2 := by have := HA.out; omega
          have hi2 : decide ((i : Int) < (l1.length : Int)) = true := decide_eq_true (by omega)
          have hi3 : decide ((i : Int) < a2) = false := decide_eq_false hia
          have hres := HRES.out
          rw [← e2, Int.toNat_natCast] at hres
          have HO' := Aside0.mk (show Kd.R k28 28 wr w.heap.size (fun _ => True) u7 r from hres ▸ HO.out)
          clear hres
          go_wp2
          exact bodyPost_ret (v := u7) (by simp [results, Try.results13, go_sem]) rfl ⟨_, rfl, HO'.out, HB.out⟩
      · have hl1 := HL1.out
        have hi2 : decide ((i : Int) < (l1.length : Int)) = false := decide_eq_false (by omega)
        have hres := HRES.out
        rw [List.take_of_length_le (show l1.length ≤ a2.toNat by have := HA.out; have := HQ.out; omega)] at hres
        have HO' := Aside0.mk (show Kd.R k28 28 wr w.heap.size (fun _ => True) u7 r by have h1 := HO.out; rw [List.take_of_length_le (by omega)] at h1; exact hres ▸ h1)
        clear hres
        go_wp2
        exact bodyPost_ret (v := u7) (by simp [results, Try.results13, go_sem]) rfl ⟨_, rfl, HO'.out, HB.out⟩
  · cases h
end Go.Proofs.Ytohbpgdhpfmlgaa.PA
