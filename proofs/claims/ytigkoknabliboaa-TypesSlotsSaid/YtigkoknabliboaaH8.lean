/- The program's types.Member and types.Same: what their calls come to. Under no condition. -/
import Derived.Test.YtigkoknabliboaaH9
import Derived.Test.YtigkoknabliboaaPAllxf39
import Derived.Test.YtigkoknabliboaaPAllxe76
namespace Go.Proofs.Ytigkoknabliboaa.PAll
open Go.RowKit Go.Proofs.YtigkoknabliboaaW.PrintWords Go.Proofs.YtigkoknabliboaaW.PrintLast Go.Proofs.YtigkoknabliboaaW.PrintMore
set_option linter.unusedVariables false
set_option linter.unusedSimpArgs false

set_option maxHeartbeats 2000000 in
theorem indexFld_calls (A0 : Option Addr) (c0 : Nat) (l0 : List S76) (g : Nat) (lb : Array Value) (eg : ∀ args w, (callFunc g args).run Try.prog w = .ok (.enter g args) w) (p : S76 → Bool) (w : World) (hr0 : Kd.C k76 w A0 l0.length l0) (hc0 : l0.length ≤ c0)
    (hp : Pred g lb (fun (x : S76) W v => v = .agg #[.string x.f0, .int .i64 x.f1.f0, .int .i64 x.f1.f1, .string x.f1.f2]) p w) :
    Calls Try.prog 58 #[.slice A0 l0.length c0, .func (.func g) #[] lb] w fun e w' => e = .returned (.int .i64 (idx p l0)) ∧ Below w.heap.size w w' := by
  have HR0 := Aside0.mk hr0
  have HC0 := Aside0.mk hc0
  have HP := Aside0.mk hp
  have hlen : l0.length ≤ 9223372036854775807 := hr0.2.1
  clear hr0 hc0 hp
  go_enter Try.func58, Try.ntmps58
  go_wp2
  go_loopg [5, 8] l0.length (fun gg _ s8 wr => ∃ kk : Nat, kk ≤ l0.length ∧ l0.length - kk ≤ gg ∧ s8 = .int .i64 kk ∧ Aside0 (Below w.heap.size w wr) ∧ Aside0 (∀ j (h : j < kk) (h2 : j < l0.length), p l0[j] = false))
  case atStart => exact ⟨0, Nat.zero_le _, by omega, rfl, ⟨Below.refl _ w⟩, ⟨fun j hj => absurd hj (Nat.not_lt_zero _)⟩⟩
  case round =>
    obtain ⟨kk, hkk, hg, rfl, BW, A⟩ := hrel
    by_cases hlt : kk < l0.length
    · have hltz : (kk : Int) < (l0.length : Int) := by omega
      obtain ⟨ad101, e101, hx101_0, hx101_1, hx101_2, hx101_3⟩ := at_T76 (Kd.C_below HR0.out BW.out) (kk : Int) (by omega) (by omega)
      cases e101
      simp only [Int.toNat_natCast] at hx101_0 hx101_1 hx101_2 hx101_3
      have hrd : rd_T76 l0 (kk : Int) = l0[kk] := by simp [rd_T76, List.getD_eq_getElem?_getD, hlt]
      rw [hrd] at hx101_0 hx101_1 hx101_2 hx101_3
      clear hrd
      cases hq : p l0[kk] with
      | true =>
        have hcall := fun (v : Value) (hv : v = .agg #[.string (l0[kk]'hlt).f0, .int .i64 (l0[kk]'hlt).f1.f0, .int .i64 (l0[kk]'hlt).f1.f1, .string (l0[kk]'hlt).f1.f2]) => HP.out wr (l0[kk]'hlt) v BW.out hv
        simp only [hq] at hcall
        have HQ := Aside0.mk hq
        have HL := Aside0.mk hcall
        clear hq hcall
        go_wp2_with (go_at_fn g; refine (HL.out _ rfl).mono ?_; rintro e w' ⟨rfl, hb'⟩)
        go_ret
        exact ⟨by rw [idx_hit p l0 kk hlt HQ.out A.out]; rfl, BW.out.trans (hb'.mono BW.out.size)⟩
      | false =>
        have hcall := fun (v : Value) (hv : v = .agg #[.string (l0[kk]'hlt).f0, .int .i64 (l0[kk]'hlt).f1.f0, .int .i64 (l0[kk]'hlt).f1.f1, .string (l0[kk]'hlt).f1.f2]) => HP.out wr (l0[kk]'hlt) v BW.out hv
        simp only [hq] at hcall
        have HQ := Aside0.mk hq
        have HL := Aside0.mk hcall
        clear hq hcall
        go_wp2_with (go_at_fn g; refine (HL.out _ rfl).mono ?_; rintro e w' ⟨rfl, hb'⟩)
        go_roundg (l0.length - (kk + 1))
        case measure => omega
        case rel =>
          refine ⟨kk + 1, by omega, by omega, by go_num, ⟨BW.out.trans (hb'.mono BW.out.size)⟩, ⟨fun j hj h2 => ?_⟩⟩
          by_cases e : j = kk
          · subst e; exact HQ.out
          · exact A.out j (by omega) h2
    · have hltz : ¬ (kk : Int) < (l0.length : Int) := by omega
      have HK : Aside0 (kk = l0.length) := ⟨by omega⟩
      go_wp2
      go_ret
      exact ⟨by rw [idx_miss p l0 (fun j h2 => A.out j (by have := HK.out; omega) h2)]; rfl, BW.out⟩


theorem cell_far (w : World) (a p : Addr) (u : Value) (h : p.block ≠ a.block) : (w.setCell a u).cell? p = w.cell? p := World.cell?_of_block (Below.heap_setCell w a u p.block h)
theorem eg59 : ∀ args w, (callFunc 59 args).run Try.prog w = .ok (.enter 59 args) w := enters_of Try.func59 (by kernel_rfl) rfl
set_option maxHeartbeats 1000000 in
theorem member1_pred (name : ByteArray) (B : Nat) (w : World) (hc : w.cell? ⟨B, 0, none⟩ = some (.string name)) (hB : B < w.heap.size) :
    Pred 59 #[.pointer (some ⟨B, 0, none⟩)] (fun (x : S76) W v => v = .agg #[.string x.f0, .int .i64 x.f1.f0, .int .i64 x.f1.f1, .string x.f1.f2]) (fun f => f.f0.toList == name.toList) w := by
  rintro W x v hb rfl
  have hc' := (hb.cell (p := ⟨B, 0, none⟩) hB).trans hc
  have hB' := Nat.lt_of_lt_of_le hB hb.size
  clear hc hB
  go_enter Try.func59, Try.ntmps59
  go_wp2
  go_ret
  exact ⟨by simp, (Below.refl _ _).alloc (Nat.le_refl _) _⟩

/-- the first field with a name in one record -/
def fldIdx (l : List S76) (name : ByteArray) : Int := idx (fun f => f.f0.toList == name.toList) l
/-- types.Member -/
def member (field : ByteArray) : List S63 → ByteArray × Int × Int × Int × ByteArray × Bool
  | [] => (⟨#[]⟩, 0, 0, 0, ⟨#[]⟩, false)
  | r :: l => if 0 ≤ fldIdx r.f1 field then (r.f0, fldIdx r.f1 field, (r.f1.getD (fldIdx r.f1 field).toNat z76).f1.f0, (r.f1.getD (fldIdx r.f1 field).toNat z76).f1.f1, (r.f1.getD (fldIdx r.f1 field).toNat z76).f1.f2, true) else member field l
def types_Member.f (l0 : List S63) (a1 : ByteArray) : Option (ByteArray × Int × Int × Int × ByteArray × Bool) := some (member a1 l0)
theorem member_drop (field : ByteArray) (l : List S63) (j : Nat) (hj : j ≤ l.length) (h : ∀ k (hk : k < l.length), k < j → fldIdx l[k].f1 field < 0) : member field l = member field (l.drop j) := by
  induction j with
  | zero => rfl
  | succ j ih =>
    rw [ih (by omega) (fun k hk hkj => h k hk (by omega)), List.drop_eq_getElem_cons (by omega), member]
    rw [if_neg (by have := h j (by omega) (by omega); omega)]

set_option maxHeartbeats 4000000 in
set_option maxRecDepth 100000 in
theorem types_Member.calls (A0 : Option Addr) (c0 : Nat) (l0 : List S63) (a1 : ByteArray) (r1 : ByteArray) (r2 : Int) (r3 : Int) (r4 : Int) (r5 : ByteArray) (r6 : Bool) (w : World) (hr0 : Kd.C k63 w A0 l0.length l0) (hc0 : l0.length ≤ c0) (h : types_Member.f l0 a1 = some (r1, r2, r3, r4, r5, r6)) :
    Calls Try.prog 32 #[.slice A0 l0.length c0, .string a1] w fun e w' => e = .returned (.tuple #[.string r1, .int .i64 r2, .agg #[.int .i64 r3, .int .i64 r4, .string r5], .bool r6]) ∧ Below w.heap.size w w' := by
  have hm : member a1 l0 = (r1, r2, r3, r4, r5, r6) := Option.some.inj h
  have HM := Aside0.mk hm
  have HR0 := Aside0.mk hr0
  have HC0 := Aside0.mk hc0
  have hlen : l0.length ≤ 9223372036854775807 := hr0.2.1
  clear hr0 hc0 h hm
  go_enter Try.func32, Try.ntmps32
  go_wp2_with fail
  go_loopw [9, 10, 13] (fun _ _ s13 wr => ∃ j : Nat, j ≤ l0.length ∧ s13 = .int .i64 j ∧ Aside0 (∀ k (hk : k < l0.length), k < j → fldIdx l0[k].f1 a1 < 0) ∧ Aside0 (Below (w.heap.size + 2) ((w.alloc (.cells #[.string a1] 9)).alloc (.cells #[.int .i64 0, .int .i64 0, .string ⟨#[]⟩] 27)) wr)) (fun _ _ s13 _ => l0.length - (intOf s13).toNat)
  case atStart => exact ⟨0, Nat.zero_le _, rfl, ⟨fun k hk h => absurd h (by omega)⟩, ⟨Below.refl _ _⟩⟩
  case round =>
    obtain ⟨j, hj, rfl, HN, HW⟩ := hrel
    have HWw : Aside0 (Below w.heap.size w wr) := ⟨(((Below.refl _ _).alloc (Nat.le_refl _) _).alloc (by simp) _).trans (HW.out.mono (by omega))⟩
    have hz : w.heap.size + 1 < wr.heap.size := by have := HW.out.size; simp at this; omega
    by_cases hlt : j < l0.length
    · have hjz : (j : Int) < (l0.length : Int) := by omega
      obtain ⟨ad, A, c, e0, hx0, hx1, hl, hi⟩ := at_T63 HR0.out (j : Int) (by omega) (by omega)
      cases e0
      replace hx0 := pw_cell_below HWw.out hx0
      replace hx1 := pw_cell_below HWw.out hx1
      simp only [Int.toNat_natCast] at hx0 hx1
      have hrd : rd_T63 l0 (j : Int) = l0[j] := by simp [rd_T63, List.getD_eq_getElem?_getD, hlt]
      rw [hrd] at hx0 hx1 hl hi
      clear hrd
      have HL := Aside0.mk hl
      have HI := Aside0.mk hi
      clear hl hi
      have hc0 : Aside0 (wr.cell? ⟨w.heap.size, 0, none⟩ = some (.string a1)) := ⟨by rw [HW.out.cell (p := ⟨w.heap.size, 0, none⟩) (by show w.heap.size < w.heap.size + 2; omega)]; simp⟩
      have hc1 : Aside0 (∀ o, wr.cell? ⟨w.heap.size + 1, o, none⟩ = #[Value.int .i64 0, Value.int .i64 0, Value.string ⟨#[]⟩][o]?) := ⟨fun o => by rw [HW.out.cell (p := ⟨w.heap.size + 1, o, none⟩) (by show w.heap.size + 1 < w.heap.size + 2; omega)]; simp⟩
      have hf1 : Aside0 (∀ o, wr.frozen? ⟨w.heap.size + 1, o, none⟩ = false) := ⟨fun o => by rw [HW.out.frozen (p := ⟨w.heap.size + 1, o, none⟩) (by show w.heap.size + 1 < w.heap.size + 2; omega)]; simp⟩
      go_wp2_with fail
      refine (indexFld_calls A c l0[j].f1 59 _ eg59 _ _ (Kd.C_below HI.out (HWw.out.alloc HWw.out.size _)) HL.out (member1_pred a1 w.heap.size _ ?_ ?_)).mono ?_
      · rw [World.cell?_alloc_past _ _ _ (by omega)]; exact hc0.out
      · simp; omega
      rintro e w4 ⟨rfl, hb4⟩
      have hq : idx (fun (f : S76) => f.f0.toList == a1.toList) l0[j].f1 = fldIdx l0[j].f1 a1 := rfl
      rw [hq]
      clear hq
      have HW4 : Aside0 (Below (w.heap.size + 2) ((w.alloc (.cells #[.string a1] 9)).alloc (.cells #[.int .i64 0, .int .i64 0, .string ⟨#[]⟩] 27)) w4) := ⟨HW.out.trans ((((Below.refl _ _).alloc (Nat.le_refl _) _).trans (hb4.mono (by simp))).mono (by omega))⟩
      have hy : ∀ o, w4.cell? ⟨wr.heap.size, o, none⟩ = #[Value.string l0[j].f0, Value.slice A l0[j].f1.length c][o]? := fun o => by
        rw [hb4.cell (p := ⟨wr.heap.size, o, none⟩) (by simp)]; simp
      have hz4 : w.heap.size + 1 < w4.heap.size := by have := hb4.size; simp at this; omega
      have hz5 : wr.heap.size < w4.heap.size := by have := hb4.size; simp at this; omega
      have HB4 : Aside0 (Below w.heap.size w w4) := ⟨HWw.out.trans ((((Below.refl _ _).alloc (Nat.le_refl _) _).trans (hb4.mono (by simp))).mono HWw.out.size)⟩
      have hd1 : Aside0 (∀ o, w4.cell? ⟨w.heap.size + 1, o, none⟩ = #[Value.int .i64 0, Value.int .i64 0, Value.string ⟨#[]⟩][o]?) := ⟨fun o => by rw [hb4.cell (p := ⟨w.heap.size + 1, o, none⟩) (by simp; omega), World.cell?_alloc_past _ _ _ (by omega)]; exact hc1.out o⟩
      have he1 : Aside0 (∀ o, w4.frozen? ⟨w.heap.size + 1, o, none⟩ = false) := ⟨fun o => by rw [hb4.frozen (p := ⟨w.heap.size + 1, o, none⟩) (by simp; omega)]; exact (World.frozen?_of_block (Below.heap_alloc wr _ _ (by show w.heap.size + 1 < wr.heap.size; omega))).trans (hf1.out o)⟩
      clear hb4 hx0 hx1 hc0 hc1 hf1
      by_cases hneg : fldIdx l0[j].f1 a1 < 0
      · generalize hv : fldIdx l0[j].f1 a1 = v at hneg
        have HV := Aside0.mk hv
        clear hv hy
        have hv0 : decide (0 ≤ v) = false := decide_eq_false (by omega)
        go_wp2_with fail
        go_roundw
        case rel =>
          refine ⟨j + 1, by omega, by go_num, ⟨fun k hk hkj => ?_⟩, HW4⟩
          by_cases e : k = j
          · subst e; rw [HV.out]; exact hneg
          · exact HN.out k hk (by omega)
        case measure => simp [intOf]; omega
      · obtain ⟨k, hk, hik, _, _⟩ := idx_some _ _ (Int.not_lt.1 hneg)
        have hik' : fldIdx l0[j].f1 a1 = (k : Int) := hik
        rw [hik']
        have HIK := Aside0.mk hik'
        clear hik hik' hneg
        obtain ⟨ad2, e2, hw0, hw1, hw2, hw3⟩ := at_T76 HI.out (k : Int) (by omega) (by omega)
        obtain rfl := e2
        have hbl : (ad2.add (k * 4)).block < w.heap.size := by have := World.block_lt_of_cell? w _ hw0; simpa using this
        replace hw0 := pw_cell_below HB4.out hw0
        replace hw1 := pw_cell_below HB4.out hw1
        replace hw2 := pw_cell_below HB4.out hw2
        replace hw3 := pw_cell_below HB4.out hw3
        simp only [Int.toNat_natCast] at hw0 hw1 hw2 hw3
        have hrd : rd_T76 l0[j].f1 (k : Int) = l0[j].f1[k] := by simp [rd_T76, List.getD_eq_getElem?_getD, hk]
        rw [hrd] at hw0 hw1 hw2 hw3
        clear hrd
        have hkz : (k : Int) < (l0[j].f1.length : Int) := by omega
        have hk0 : (0 : Int) ≤ (k : Int) := by omega
        have hy0 := hy 0
        have hy1 := hy 1
        simp at hy0 hy1
        clear hy
        have g0 := hd1.out 0
        have g1 := hd1.out 1
        have g2 := hd1.out 2
        simp at g0 g1 g2
        have f0 := he1.out 0
        have f1 := he1.out 1
        have f2 := he1.out 2
        have hfar : ∀ p : Addr, p.block ≠ w.heap.size + 1 → (((w4.setCell ⟨w.heap.size + 1, 0, none⟩ (.int .i64 l0[j].f1[k].f1.f0)).setCell ⟨w.heap.size + 1, 1, none⟩ (.int .i64 l0[j].f1[k].f1.f1)).setCell ⟨w.heap.size + 1, 2, none⟩ (.string l0[j].f1[k].f1.f2)).drew.cell? p = w4.cell? p := fun p hp => by
          show (((w4.setCell _ _).setCell _ _).setCell _ _).cell? p = _
          rw [cell_far _ _ _ _ hp, cell_far _ _ _ _ hp, cell_far _ _ _ _ hp]
        have HK6 : Aside0 (_ ∧ _ ∧ _ ∧ _ ∧ _) := ⟨⟨(hfar ⟨wr.heap.size, 0, none⟩ (by show wr.heap.size ≠ _; omega)).trans hy0, (hfar ⟨wr.heap.size, 1, none⟩ (by show wr.heap.size ≠ _; omega)).trans hy1,
          (hfar ⟨(ad2.add (k * 4)).block, (ad2.add (k * 4)).off + 1, none⟩ (by show (ad2.add (k * 4)).block ≠ _; omega)).trans hw1, (hfar ⟨(ad2.add (k * 4)).block, (ad2.add (k * 4)).off + 2, none⟩ (by show (ad2.add (k * 4)).block ≠ _; omega)).trans hw2, (hfar ⟨(ad2.add (k * 4)).block, (ad2.add (k * 4)).off + 3, none⟩ (by show (ad2.add (k * 4)).block ≠ _; omega)).trans hw3⟩⟩
        clear hfar
        have n1 : ¬ (ad2.add (k * 4)).block = w.heap.size + 1 := by omega
        have n2 : ¬ wr.heap.size = w.heap.size + 1 := by omega
        go_wp2_with fail
        go_region_held3 (fun w' => w'.cell? ⟨wr.heap.size, 0, none⟩ = some (.string l0[j].f0) ∧ w'.cell? ⟨wr.heap.size, 1, none⟩ = some (.slice (some ad2) l0[j].f1.length c) ∧
            w'.cell? ⟨(ad2.add (k * 4)).block, (ad2.add (k * 4)).off + 1, none⟩ = some (.int .i64 l0[j].f1[k].f1.f0) ∧ w'.cell? ⟨(ad2.add (k * 4)).block, (ad2.add (k * 4)).off + 2, none⟩ = some (.int .i64 l0[j].f1[k].f1.f1) ∧ w'.cell? ⟨(ad2.add (k * 4)).block, (ad2.add (k * 4)).off + 3, none⟩ = some (.string l0[j].f1[k].f1.f2))
          (first | exact HK6.out | go_keep) (fail)
        have hmem : member a1 l0 = (l0[j].f0, (k : Int), l0[j].f1[k].f1.f0, l0[j].f1[k].f1.f1, l0[j].f1[k].f1.f2, true) := by
          rw [member_drop a1 l0 j hj HN.out, List.drop_eq_getElem_cons hlt, member, HIK.out, if_pos hk0]
          simp [List.getD_eq_getElem?_getD, hk]
        have HE := Aside0.mk (HM.out.symm.trans hmem)
        have HB5 := HB4
        clear hmem hw0 hw1 hw2 hw3 hy0 hy1 HK6 n1 n2
        go_wp2
        refine bodyPost_ret (v := .tuple #[.string l0[j].f0, .int .i64 k, .agg #[.int .i64 l0[j].f1[k].f1.f0, .int .i64 l0[j].f1[k].f1.f1, .string l0[j].f1[k].f1.f2], .bool true]) (by simp [results, Try.results32, go_sem, g0, g1, g2, hz4]) rfl ⟨?_, ?_⟩
        · have := HE.out
          simp only [Prod.mk.injEq] at this
          obtain ⟨rfl, rfl, rfl, rfl, rfl, rfl⟩ := this
          rfl
        · exact (((HB5.out.setCell (by simp) _).setCell (by simp) _).setCell (by simp) _).drew
    · have hjz : ¬ (j : Int) < (l0.length : Int) := by omega
      have hmem : member a1 l0 = (⟨#[]⟩, 0, 0, 0, ⟨#[]⟩, false) := by
        rw [member_drop a1 l0 j hj HN.out, List.drop_eq_nil_of_le (by omega), member]
      have HE := Aside0.mk (HM.out.symm.trans hmem)
      have hc1 : ∀ o, wr.cell? ⟨w.heap.size + 1, o, none⟩ = #[Value.int .i64 0, Value.int .i64 0, Value.string ⟨#[]⟩][o]? := fun o => by rw [HW.out.cell (p := ⟨w.heap.size + 1, o, none⟩) (by show w.heap.size + 1 < w.heap.size + 2; omega)]; simp
      have hf1 : ∀ o, wr.frozen? ⟨w.heap.size + 1, o, none⟩ = false := fun o => by rw [HW.out.frozen (p := ⟨w.heap.size + 1, o, none⟩) (by show w.heap.size + 1 < w.heap.size + 2; omega)]; simp
      have g0 := hc1 0
      have g1 := hc1 1
      have g2 := hc1 2
      simp at g0 g1 g2
      have f0 := hf1 0
      have f1 := hf1 1
      have f2 := hf1 2
      clear hc1 hf1 hmem
      go_wp2
      refine bodyPost_ret (v := .tuple #[.string ⟨#[]⟩, .int .i64 0, .agg #[.int .i64 0, .int .i64 0, .string ⟨#[]⟩], .bool false]) (by simp [results, Try.results32, go_sem, g0, g1, g2, hz]) rfl ⟨?_, ?_⟩
      · have := HE.out
        simp only [Prod.mk.injEq] at this
        obtain ⟨rfl, rfl, rfl, rfl, rfl, rfl⟩ := this
        rfl
      · exact ((HWw.out.setCell (by simp) _).setCell (by simp) _).setCell (by simp) _
end Go.Proofs.Ytigkoknabliboaa.PAll
