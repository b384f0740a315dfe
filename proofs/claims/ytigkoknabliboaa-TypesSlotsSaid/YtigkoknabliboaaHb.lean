/- The walk of the law TypesSlots, by hand: the machine answers true. Under no condition but that the records' slice is no longer than a slice can be. -/
import Derived.Test.YtigkoknabliboaaL4
import Derived.Test.YtigkoknabliboaaPAllxf8
import Derived.Test.YtigkoknabliboaaPAllxf14
import Derived.Test.YtigkoknabliboaaH7
import Derived.BigQuiet
namespace Go.Proofs.Ytigkoknabliboaa.PAll
open Go.RowKit Go.Proofs.YtigkoknabliboaaW.PrintWords Go.Proofs.YtigkoknabliboaaW.PrintLast Go.Proofs.YtigkoknabliboaaW.PrintMore
set_option linter.unusedVariables false
set_option linter.unusedSimpArgs false
set_option maxHeartbeats 4000000 in
set_option maxRecDepth 100000 in
theorem slots_calls (A0 : Option Addr) (c0 : Nat) (l0 : List S63) (A1 : Option Addr) (c1 : Nat) (l1 : List S39) (w : World) (hr0 : Kd.C k63 w A0 l0.length l0) (hc0 : l0.length ≤ c0) (hl0 : l0.length ≤ 9223372036854775807) (hr1 : Kd.C k39 w A1 l1.length l1) (hc1 : l1.length ≤ c1) :
    Calls Try.prog 4 #[.slice A0 l0.length c0, .slice A1 l1.length c1] w fun e w' => e = .returned (.bool true) ∧ Below w.heap.size w w' := by
  have HR0 := Aside0.mk hr0
  have HC0 := Aside0.mk hc0
  have HR1 := Aside0.mk hr1
  have HC1 := Aside0.mk hc1
  have HF : Aside0 (assessorref08_Few.f (l0.length + 1) l0 = some (few l0)) := ⟨few_f _ l0 hl0 (by omega)⟩
  clear hr0 hc0 hr1 hc1 hl0
  cases hf : few l0 with
  | false =>
    rw [hf] at HF
    clear hf
    go_enter Try.func4, Try.ntmps4
    go_wp2_with fail
    refine (assessorref08_Few.calls _ A0 c0 l0 _ w HR0.out HC0.out HF.out).mono ?_
    rintro e w1 ⟨rfl, ⟨n1, rfl⟩⟩
    go_wp2_with fail
    refine (assessorlaw08_awake.calls true _ rfl).mono ?_
    rintro e w2 ⟨rfl, hb⟩
    go_wp2_with fail
    go_ret
    exact ⟨rfl, (pw_below_drewN (Below.refl _ _) n1).trans hb⟩
  | true =>
    rw [hf] at HF
    have HFew := Aside0.mk hf
    clear hf
    by_cases hv : (l1.length : Int) > 20
    · go_enter Try.func4, Try.ntmps4
      go_wp2_with fail
      refine (assessorref08_Few.calls _ A0 c0 l0 _ w HR0.out HC0.out HF.out).mono ?_
      rintro e w1 ⟨rfl, ⟨n1, rfl⟩⟩
      go_wp2_with fail
      refine (assessorlaw08_awake.calls true _ rfl).mono ?_
      rintro e w2 ⟨rfl, hb⟩
      go_wp2_with fail
      go_ret
      exact ⟨rfl, (pw_below_drewN (Below.refl _ _) n1).trans hb⟩
    · have hlen : l1.length ≤ 20 := by omega
      obtain ⟨x, n, hx, hinv, hval⟩ : ∃ (x : List S39) (n : Int), types_Layout.f 30 l0 l1 = some (x, n) ∧ (l1.all (fun v => validS l0 v.f1) = false → x = [] ∧ n = 0) ∧ (l1.all (fun v => validS l0 v.f1) = true → x = lay l0 l1 0 ∧ n = ((layEnd l0 l1 0 : Nat) : Int)) := by
        have h := layout_law 30 l0 HFew.out l1 hlen (by omega)
        cases ha : l1.all (fun v => validS l0 v.f1) with
        | false => rw [ha] at h; exact ⟨_, _, h, fun _ => ⟨rfl, rfl⟩, fun h => by cases h⟩
        | true => rw [ha] at h; exact ⟨_, _, h, (fun h => by cases h), fun _ => ⟨rfl, rfl⟩⟩
      have HLay := Aside0.mk hx
      have HInv := Aside0.mk hinv
      have HVal := Aside0.mk hval
      clear hx hinv hval
      go_enter Try.func4, Try.ntmps4
      go_wp2_with fail
      refine (assessorref08_Few.calls _ A0 c0 l0 _ w HR0.out HC0.out HF.out).mono ?_
      rintro e w1 ⟨rfl, ⟨n1, rfl⟩⟩
      go_wp2_with fail
      refine (types_Layout.calls _ A0 c0 l0 A1 c1 l1 x n _ (Kd.C_below HR0.out (pw_below_drewN (Below.refl _ _) n1)) HC0.out (Kd.C_below HR1.out (pw_below_drewN (Below.refl _ _) n1)) HC1.out HLay.out).mono ?_
      rintro e w2 ⟨v0_, rfl, hR2, hb2⟩
      obtain ⟨A2, c2, rfl, hc2, hC2⟩ := Kd.R_reads hR2
      have HB2 : Aside0 (Below w.heap.size w w2) := ⟨(pw_below_drewN (Below.refl _ _) n1).trans hb2⟩
      have HC2 := Aside0.mk hC2
      clear hR2 hb2 hC2 HF
      have hlen_ := hlen
      clear hv
      go_wp2_with fail
      go_loopw [7, 9, 30] (fun s7 _ s30 wr => ∃ j : Nat, j ≤ l1.length ∧ s30 = .int .i64 j ∧ Aside0 (Kd.R k27 27 wr w2.heap.size (fun _ => True) s7 ((l1.take j).map (·.f1))) ∧ Aside0 ((l1.take j).all (fun v => validS l0 v.f1) = true) ∧ Aside0 (Below w2.heap.size w2 wr)) (fun _ _ s30 _ => l1.length - (intOf s30).toNat)
      case atStart => exact ⟨0, Nat.zero_le _, rfl, ⟨Kd.R_nil _ _ _ _ _⟩, ⟨rfl⟩, ⟨Below.refl _ _⟩⟩
      case round =>
        obtain ⟨j, hj, rfl, HO, HV, HW⟩ := hrel
        by_cases hlt : j < l1.length
        · have hjz : (j : Int) < (l1.length : Int) := by omega
          obtain ⟨ad, e0, hx0, hx1, hx2, hx3, hx4, hx5, hx6, hx7⟩ := at_T39 (Kd.C_below (Kd.C_below HR1.out HB2.out) HW.out) (j : Int) (by omega) (by omega)
          cases e0
          have hrd : rd_T39 l1 (j : Int) = l1[j] := by simp [rd_T39, List.getD_eq_getElem?_getD, hlt]
          simp only [Int.toNat_natCast] at hx0 hx1 hx2 hx3 hx4 hx5 hx6 hx7
          rw [hrd] at hx0 hx1 hx2 hx3 hx4 hx5 hx6 hx7
          clear hrd
          have HCl : Aside0 (∀ o, Kd.C k63 (wr.alloc o) A0 l0.length l0) := ⟨fun o => Kd.C_below (Kd.C_below (Kd.C_below HR0.out HB2.out) HW.out) ((Below.refl _ _).alloc (Nat.le_refl _) _)⟩
          have HVV : Aside0 (types_Valid.f l1[j].f1.f0 l1[j].f1.f1 l1[j].f1.f2 l0 = some (validS l0 l1[j].f1)) := ⟨rfl⟩
          cases hv : validS l0 l1[j].f1 with
          | false =>
            have hall : l1.all (fun v => validS l0 v.f1) = false := by
              rw [List.all_eq_false]
              exact ⟨l1[j], List.getElem_mem hlt, by simp [hv]⟩
            obtain ⟨ex, en⟩ := HInv.out hall
            subst ex
            subst en
            rw [hv] at HVV
            go_wp2_with fail
            refine (types_Valid.calls _ _ _ A0 c0 l0 _ _ (HCl.out _) HC0.out HVV.out).mono ?_
            rintro e w3 ⟨rfl, hb3⟩
            have HB3 : Aside0 (Below w2.heap.size w2 w3) := ⟨(HW.out.alloc HW.out.size _).trans (hb3.mono (by have := HW.out.size; simp; omega))⟩
            clear hb3
            go_wp2_with fail
            refine (assessorlaw08_awake.calls true _ rfl).mono ?_
            rintro e w4 ⟨rfl, hb4⟩
            have HB4 : Aside0 (Below w.heap.size w w4) := ⟨(HB2.out.trans (HB3.out.mono HB2.out.size)).trans (hb4.mono (Nat.le_trans HB2.out.size HB3.out.size))⟩
            clear hb4
            go_wp2_with fail
            go_ret
            exact ⟨rfl, HB4.out⟩
          | true =>
            rw [hv] at HVV
            go_wp2_with fail
            refine (types_Valid.calls _ _ _ A0 c0 l0 _ _ (HCl.out _) HC0.out HVV.out).mono ?_
            rintro e w3 ⟨rfl, hb3⟩
            have HB3 : Aside0 (Below wr.heap.size wr w3) := ⟨((Below.refl _ _).alloc (Nat.le_refl _) _).trans (hb3.mono (by simp))⟩
            have hz3 : wr.heap.size < w3.heap.size := by have := hb3.size; simp at this; omega
            have hy1 : w3.cell? ⟨wr.heap.size, 1, none⟩ = some (.int .i64 l1[j].f1.f0) := by rw [hb3.cell (by simp)]; simp
            have hy2 : w3.cell? ⟨wr.heap.size, 2, none⟩ = some (.int .i64 l1[j].f1.f1) := by rw [hb3.cell (by simp)]; simp
            have hy3 : w3.cell? ⟨wr.heap.size, 3, none⟩ = some (.string l1[j].f1.f2) := by rw [hb3.cell (by simp)]; simp
            have HVt := Aside0.mk hv
            clear hb3 hx0 hx1 hx2 hx3 hx4 hx5 hx6 hx7 hv
            have HBa : Aside0 (Below w2.heap.size w2 w3) := ⟨HW.out.trans (HB3.out.mono HW.out.size)⟩
            have HOa : Aside0 (Kd.R k27 27 w3 w2.heap.size (fun _ => True) u7 ((l1.take j).map (·.f1))) := ⟨Kd.R_below HO.out HB3.out⟩
            go_wp2_with ((with_reducible refine gate_builtin (b := .append) (xs := #[.tmp 49, .tmp 52]) rfl ?_); at_builtin; refine Kd.R_append k27 (w0 := w2) w2.heap.size rfl (.tmp 49) (.tmp 52) 23 27 (.agg #[(.int .i64 0), (.int .i64 0), (.string ⟨#[]⟩)]) 32 rfl Try.underlying23 info27 rfl (by decide) (by omega) u7 ((l1.take j).map (·.f1)) l1[j].f1 [.int .i64 l1[j].f1.f0, .int .i64 l1[j].f1.f1, .string l1[j].f1.f2] (fun _ => True) (fun _ => False) rfl rfl ?aP (fun _ hk => hk.elim) ?aF ?aO ?aB ?aS ?aL ?_; (case aP => exact k27_mkM _ _ _ l1[j].f1); (case aB => exact HBa.out); (case aF => exact (fun _ _ => trivial)); (case aO => exact HOa.out); (case aS => exact HBa.out.size); (case aL => simp; omega); intro v1 w15 ho hb hg hat)
            have HO6 : Aside0 (Kd.R k27 27 w15 w2.heap.size (fun _ => True) v1 ((l1.take (j + 1)).map (·.f1))) := ⟨by
              rw [List.take_succ_eq_append_getElem hlt, List.map_append]
              exact ho⟩
            have HV6 : Aside0 ((l1.take (j + 1)).all (fun v => validS l0 v.f1) = true) := ⟨by
              rw [List.take_succ_eq_append_getElem hlt, List.all_append, HV.out]
              simp [HVt.out]⟩
            have HB6 := Aside0.mk hb
            clear ho hb hg hat HBa HOa HO HV HVt HVV HCl hy1 hy2 hy3 HB3 HW hz3
            go_wp2_with fail
            go_roundw
            case rel => exact ⟨j + 1, by omega, by go_num, HO6, HV6, HB6⟩
            case measure => simp [intOf]; omega
        · have hjz : ¬ (j : Int) < (l1.length : Int) := by omega
          have hall : l1.all (fun v => validS l0 v.f1) = true := by
            have := HV.out
            rwa [List.take_of_length_le (by omega)] at this
          obtain ⟨ex, en⟩ := HVal.out hall
          have hxl : x.length = l1.length := by rw [ex, lay_length]
          have HEx := Aside0.mk ex
          have HEn : Aside0 (n = ((slotAt l0 l1 l1.length : Nat) : Int)) := ⟨by rw [en]; unfold slotAt; rw [List.take_length]⟩
          have HAll := Aside0.mk hall
          have hO := HO.out
          rw [List.take_of_length_le (by omega)] at hO
          obtain ⟨A7, c7, rfl, hc7, hC7⟩ := Kd.R_reads hO
          have HC7 := Aside0.mk hC7
          have Hc7 := Aside0.mk hc7
          have HCx : Aside0 (Kd.C k39 wr A2 l1.length x) := ⟨by have := Kd.C_below HC2.out HW.out; rwa [hxl] at this⟩
          have HCl1 : Aside0 (Kd.C k39 wr A1 l1.length l1) := ⟨Kd.C_below (Kd.C_below HR1.out HB2.out) HW.out⟩
          have HCl0 : Aside0 (Kd.C k63 wr A0 l0.length l0) := ⟨Kd.C_below (Kd.C_below HR0.out HB2.out) HW.out⟩
          have HBw : Aside0 (Below w.heap.size w wr) := ⟨HB2.out.trans (HW.out.mono HB2.out.size)⟩
          clear ex en hall hO hC7 hc7 HO HV HW HInv HVal HC2 HR0 HR1 HB2 HLay
          rw [hxl]
          clear hxl
          obtain ⟨wL, rfl⟩ : ∃ wL, wL = wr := ⟨_, rfl⟩
          go_wp2_with fail
          go_loopw [10, 11, 12, 62] (fun s10 _ _ s62 wx => ∃ j : Nat, j ≤ l1.length ∧ s62 = .int .i64 j ∧ s10 = .int .i64 ((slotAt l0 l1 j : Nat) : Int) ∧ Aside0 (Below wL.heap.size wL wx)) (fun _ _ _ s62 _ => l1.length - (intOf s62).toNat)
          case atStart => exact ⟨0, Nat.zero_le _, rfl, rfl, ⟨Below.refl _ _⟩⟩
          case round =>
            obtain ⟨i, hi, rfl, rfl, HX⟩ := hrel
            by_cases hlt2 : i < l1.length
            · have hiz : (i : Int) < (l1.length : Int) := by omega
              have hget : x[i]? = some (atSlot l1[i] ((slotAt l0 l1 i : Nat) : Int)) := by rw [HEx.out]; exact lay_get l0 l1 0 i hlt2
              have hrdx : rd_T39 x (i : Int) = atSlot l1[i] ((slotAt l0 l1 i : Nat) : Int) := by simp [rd_T39, List.getD_eq_getElem?_getD, hget]
              obtain ⟨ad, e0, hx0, hx1, hx2, hx3, hx4, hx5, hx6, hx7⟩ := at_T39 (Kd.C_below HCx.out HX.out) (i : Int) (by omega) (by omega)
              cases e0
              simp only [Int.toNat_natCast] at hx0 hx1 hx2 hx3 hx4 hx5 hx6 hx7
              rw [hrdx] at hx0 hx1 hx2 hx3 hx4 hx5 hx6 hx7
              simp only [atSlot] at hx0 hx1 hx2 hx3 hx4 hx5 hx6 hx7
              obtain ⟨ae, e0, hz0, hz1, hz2, hz3, hz4, hz5, hz6, hz7⟩ := at_T39 (Kd.C_below HCl1.out HX.out) (i : Int) (by omega) (by omega)
              cases e0
              have hrd : rd_T39 l1 (i : Int) = l1[i] := by simp [rd_T39, List.getD_eq_getElem?_getD, hlt2]
              simp only [Int.toNat_natCast] at hz0 hz1 hz2 hz3 hz4 hz5 hz6 hz7
              rw [hrd] at hz0 hz1 hz2 hz3 hz4 hz5 hz6 hz7
              have hsz : types_Size.f l1[i].f1.f0 l1[i].f1.f1 l1[i].f1.f2 l0 = some ((szT l0 l1[i].f1 : Nat) : Int) := by
                unfold types_Size.f types_Scalars.f
                rw [if_pos ⟨few_small HFew.out, by simp⟩]
                rfl
              have HSz := Aside0.mk hsz
              have hnx : slotAt l0 l1 (i + 1) = slotAt l0 l1 i + szT l0 l1[i].f1 := slotAt_succ l0 l1 i hlt2
              have HNx := Aside0.mk hnx
              have HLe := Aside0.mk (slotAt_le l0 HFew.out l1 (by omega) (i + 1))
              have HCl : Aside0 (∀ o, Kd.C k63 (wr.alloc o) A0 l0.length l0) := ⟨fun o => Kd.C_below (Kd.C_below HCl0.out HX.out) ((Below.refl _ _).alloc (Nat.le_refl _) _)⟩
              clear hsz hnx
              have hu39 := Try.underlying39
              go_upto_region 18 with fail
              obtain ⟨wB, hwB⟩ : ∃ wB, wB = wr.alloc (.cells #[.string l1[i].f0, .int .i64 l1[i].f1.f0, .int .i64 l1[i].f1.f1, .string l1[i].f1.f2, .int .i64 ((slotAt l0 l1 i : Nat) : Int), .int .i64 l1[i].f3, .bool l1[i].f4, .bool l1[i].f5] 39) := ⟨_, rfl⟩
              rw [← hwB]
              have hblk : wB.heap[wr.heap.size]? = some (.cells #[.string l1[i].f0, .int .i64 l1[i].f1.f0, .int .i64 l1[i].f1.f1, .string l1[i].f1.f2, .int .i64 ((slotAt l0 l1 i : Nat) : Int), .int .i64 l1[i].f3, .bool l1[i].f4, .bool l1[i].f5] 39 (0, 0)) := by rw [hwB]; exact heap_alloc_new wr _
              have hBB : Below wr.heap.size wr wB := by rw [hwB]; exact (Below.refl _ _).alloc (Nat.le_refl _) _
              have HBB := Aside0.mk hBB
              have HClB : Aside0 (Kd.C k63 wB A0 l0.length l0) := ⟨by rw [hwB]; exact HCl.out _⟩
              have hcz0 : wB.cell? ⟨wr.heap.size, 0, none⟩ = some (.string l1[i].f0) := (blk_cell hblk 0).trans rfl
              have hcz1 : wB.cell? ⟨wr.heap.size, 1, none⟩ = some (.int .i64 l1[i].f1.f0) := (blk_cell hblk 1).trans rfl
              have hcz2 : wB.cell? ⟨wr.heap.size, 2, none⟩ = some (.int .i64 l1[i].f1.f1) := (blk_cell hblk 2).trans rfl
              have hcz3 : wB.cell? ⟨wr.heap.size, 3, none⟩ = some (.string l1[i].f1.f2) := (blk_cell hblk 3).trans rfl
              have hcz4 : wB.cell? ⟨wr.heap.size, 4, none⟩ = some (.int .i64 ((slotAt l0 l1 i : Nat) : Int)) := (blk_cell hblk 4).trans rfl
              have hcz5 : wB.cell? ⟨wr.heap.size, 5, none⟩ = some (.int .i64 l1[i].f3) := (blk_cell hblk 5).trans rfl
              have hcz6 : wB.cell? ⟨wr.heap.size, 6, none⟩ = some (.bool l1[i].f4) := (blk_cell hblk 6).trans rfl
              have hcz7 : wB.cell? ⟨wr.heap.size, 7, none⟩ = some (.bool l1[i].f5) := (blk_cell hblk 7).trans rfl
              replace hz0 := pw_cell_below hBB hz0
              replace hz1 := pw_cell_below hBB hz1
              replace hz2 := pw_cell_below hBB hz2
              replace hz3 := pw_cell_below hBB hz3
              replace hz4 := pw_cell_below hBB hz4
              replace hz5 := pw_cell_below hBB hz5
              replace hz6 := pw_cell_below hBB hz6
              replace hz7 := pw_cell_below hBB hz7
              clear hblk hBB hx0 hx1 hx2 hx3 hx4 hx5 hx6 hx7 hwB
              go_quiet (fail)
              go_wp2_with fail
              refine (types_Size.calls _ _ _ A0 c0 l0 _ _ (Kd.C_below HClB.out (pw_below_drewN (Below.refl _ _) nq)) HC0.out HSz.out).mono ?_
              rintro e w5 ⟨rfl, hb5⟩
              have HB5 : Aside0 (Below wL.heap.size wL w5) := ⟨HX.out.trans (((pw_below_drewN HBB.out nq).trans (hb5.mono HBB.out.size)).mono HX.out.size)⟩
              clear hb5 hz0 hz1 hz2 hz3 hz4 hz5 hz6 hz7 hcz0 hcz1 hcz2 hcz3 hcz4 hcz5 hcz6 hcz7
              go_wp2_with fail
              go_roundw
              case rel => exact ⟨i + 1, by omega, by go_num, by (have h1 := HNx.out; have h2 := HLe.out; rw [h1] at h2 ⊢; congr 1; unfold wrap64; omega), HB5⟩
              case measure => simp [intOf]; omega
            · have hiz : ¬ (i : Int) < (l1.length : Int) := by omega
              have hie : i = l1.length := by omega
              clear hiz
              subst hie
              have hn := HEn.out
              clear HEn
              subst hn
              have hsc : types_Scalars.f l0 (l1.map (·.f1)) = some (scalars l0 (l1.map (·.f1))) := by
                unfold types_Scalars.f
                rw [if_pos ⟨few_small HFew.out, by simp; omega⟩]
              have hle : (scalars l0 (l1.map (·.f1))).length = slotAt l0 l1 l1.length := by
                have := layEnd_scalars l0 l1 0 HAll.out
                unfold slotAt
                rw [List.take_length]
                omega
              have HSc := Aside0.mk hsc
              have HLe := Aside0.mk hle
              have HC7' : Aside0 (Kd.C k27 wr A7 (l1.map (·.f1)).length (l1.map (·.f1))) := ⟨by have := Kd.C_below HC7.out HX.out; simpa using this⟩
              have HCr : Aside0 (Kd.C k63 wr A0 l0.length l0) := ⟨Kd.C_below HCl0.out HX.out⟩
              have HSC := Aside0.mk (types_Scalars.calls A0 c0 l0 A7 c7 (l1.map (·.f1)) (scalars l0 (l1.map (·.f1))) wr HCr.out HC0.out HC7'.out Hc7.out HSc.out)
              rw [List.length_map] at HSC
              clear hsc hle
              go_wp2_with fail
              refine HSC.out.mono ?_
              rintro e w6 ⟨v6, rfl, hR6, hB6⟩
              obtain ⟨A6, c6, rfl, hc6, hC6⟩ := Kd.R_reads hR6
              rw [HLe.out]
              have HB6 : Aside0 (Below w.heap.size w w6) := ⟨(HBw.out.trans (HX.out.mono HBw.out.size)).trans (hB6.mono (Nat.le_trans HBw.out.size HX.out.size))⟩
              clear hR6 hB6 hC6 hc6
              go_wp2_with fail
              refine (assessorlaw08_awake.calls true _ rfl).mono ?_
              rintro e w7 ⟨rfl, hb7⟩
              have HB7 : Aside0 (Below w.heap.size w w7) := ⟨HB6.out.trans (hb7.mono HB6.out.size)⟩
              clear hb7
              go_wp2_with fail
              go_ret
              exact ⟨rfl, HB7.out⟩
end Go.Proofs.Ytigkoknabliboaa.PAll
