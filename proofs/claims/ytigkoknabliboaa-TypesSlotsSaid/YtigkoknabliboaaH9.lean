/- The program's types.Scalars: what its calls come to: for at most a million types, and records with at most a thousand fields. -/
import Derived.Test.YtigkoknabliboaaH5
namespace Go.Proofs.Ytigkoknabliboaa.PAll
open Go.RowKit Go.Proofs.YtigkoknabliboaaW.PrintWords Go.Proofs.YtigkoknabliboaaW.PrintLast Go.Proofs.YtigkoknabliboaaW.PrintMore
set_option linter.unusedVariables false
set_option linter.unusedSimpArgs false

theorem gateS {P : Program} {ops : Array Oper} {o : Oper} {a : Act} {W : World} {K : Act → World → Prop} {Q : Exit → Act → World → Prop} {E : Prop} (N : Tmp) (_hN : o.dst = some N) (h : if Region.wanted o (yielded ops a.tmps) = true then Oper.wp P o a W K Q else E) :
    if Region.wanted o (yielded ops a.tmps) = true then Oper.wp P o a W K Q else E := h
/-- the fields of the first record with a name -/
def fieldsOf (l : List S63) (s : ByteArray) : List S76 := (l.getD (recIdx l s).toNat z63).f1
/-- the scalars of one type -/
def sc1 (l : List S63) (t : S27) : List S27 :=
  if t.f0 = 1 ∨ t.f0 = 2 then [⟨t.f0, 0, ⟨#[]⟩⟩] else if t.f0 = 3 then List.replicate t.f1.toNat ⟨1, 0, ⟨#[]⟩⟩ else (fieldsOf l t.f2).map scal
def validS (l : List S63) (t : S27) : Bool := validT t.f0 t.f1 t.f2 l
def smallR (l : List S63) : Prop := ∀ r ∈ l, r.f1.length ≤ 1000
instance (l : List S63) : Decidable (smallR l) := inferInstanceAs (Decidable (∀ r ∈ l, r.f1.length ≤ 1000))
theorem eg61 : ∀ args w, (callFunc 61 args).run Try.prog w = .ok (.enter 61 args) w := enters_of Try.func61 (by kernel_rfl) rfl
theorem eg63 : ∀ args w, (callFunc 63 args).run Try.prog w = .ok (.enter 63 args) w := enters_of Try.func63 (by kernel_rfl) rfl
theorem eg66 : ∀ args w, (callFunc 66 args).run Try.prog w = .ok (.enter 66 args) w := enters_of Try.func66 (by kernel_rfl) rfl

theorem pick (l : List S63) (hs : smallR l) (t : S27) (hv : validS l t = true) (A0 : Option Addr) (c0 : Nat) (hc0 : l.length ≤ c0) :
    ∃ i f g, Instr.findNow (.int .i64) (.int .i64 t.f0) shapeEs.toList 0 = some (some (i, .agg #[.func (.func f) #[] #[], .func (.func g) #[] #[]])) ∧
      (∀ args w, (callFunc g args).run Try.prog w = .ok (.enter g args) w) ∧
      (sc1 l t).length ≤ 1000 ∧
      ∀ W, Kd.C k63 W A0 l.length l → Calls Try.prog g #[.agg #[.int .i64 t.f0, .int .i64 t.f1, .string t.f2], .slice A0 l.length c0] W fun e w' => ∃ v0_ : Value, e = .returned (v0_) ∧ Kd.R k27 27 w' W.heap.size (fun _ => True) v0_ (sc1 l t) ∧ Below W.heap.size W w' := by
  obtain ⟨k, n, s⟩ := t
  unfold validS validT at hv
  unfold sc1
  dsimp only at hv ⊢
  by_cases h1 : k = 1
  · subst h1
    exact ⟨0, 60, 61, rfl, eg61, by simp, fun W hW => types_shapes_2.calls 1 n s A0 c0 l _ W hW hc0 rfl⟩
  by_cases h2 : k = 2
  · subst h2
    exact ⟨1, 60, 61, rfl, eg61, by simp, fun W hW => types_shapes_2.calls 2 n s A0 c0 l _ W hW hc0 rfl⟩
  rw [if_neg (by omega)] at hv
  rw [if_neg (by omega)]
  by_cases h3 : k = 3
  · subst h3
    rw [if_pos rfl] at hv
    simp only [Bool.and_eq_true, decide_eq_true_eq] at hv
    obtain ⟨m, rfl⟩ := Int.eq_ofNat_of_zero_le (show 0 ≤ n by omega)
    rw [if_pos rfl, Int.toNat_natCast]
    exact ⟨2, 62, 63, rfl, eg63, by simp; omega, fun W hW => shapes4_calls m 3 s _ W (by omega) (by omega)⟩
  rw [if_neg h3] at hv
  rw [if_neg h3]
  by_cases h4 : k = 4
  · subst h4
    rw [if_pos rfl] at hv
    simp only [Bool.and_eq_true, decide_eq_true_eq] at hv
    obtain ⟨m, hm, him, _, _⟩ := idx_some _ _ hv.2
    have hi : recIdx l s = (m : Int) := him
    have hfo : fieldsOf l s = l[m].f1 := by unfold fieldsOf; rw [hi]; simp [List.getD_eq_getElem?_getD, hm]
    have hsm : l[m].f1.length ≤ 1000 := hs _ (List.getElem_mem hm)
    rw [hfo]
    exact ⟨3, 65, 66, rfl, eg66, by simpa using hsm, fun W hW => shapes6_calls m 4 n s A0 c0 l hm W hW hc0 hi hsm⟩
  · rw [if_neg h4] at hv
    simp at hv

/-- types.Scalars -/
def scalars (l : List S63) (ts : List S27) : List S27 := if ts.all (validS l) then ts.flatMap (sc1 l) else []
def types_Scalars.f (l0 : List S63) (l1 : List S27) : Option (List S27) := if smallR l0 ∧ l1.length ≤ 1000000 then some (scalars l0 l1) else none
set_option maxHeartbeats 8000000 in
set_option maxRecDepth 100000 in
theorem types_Scalars.calls (A0 : Option Addr) (c0 : Nat) (l0 : List S63) (A1 : Option Addr) (c1 : Nat) (l1 : List S27) (r : List S27) (w : World) (hr0 : Kd.C k63 w A0 l0.length l0) (hc0 : l0.length ≤ c0) (hr1 : Kd.C k27 w A1 l1.length l1) (hc1 : l1.length ≤ c1) (h : types_Scalars.f l0 l1 = some r) :
    Calls Try.prog 17 #[.slice A0 l0.length c0, .slice A1 l1.length c1] w fun e w' => ∃ v0_ : Value, e = .returned (v0_) ∧ Kd.R k27 27 w' w.heap.size (fun _ => True) v0_ r ∧ Below w.heap.size w w' := by
  unfold types_Scalars.f at h
  split at h
  case isFalse => simp at h
  rename_i hsm
  obtain rfl := Option.some.inj h
  have HR0 := Aside0.mk hr0
  have HC0 := Aside0.mk hc0
  have HR1 := Aside0.mk hr1
  have HC1 := Aside0.mk hc1
  have HSm := Aside0.mk hsm.1
  have hl1 : l1.length ≤ 1000000 := hsm.2
  clear hr0 hc0 hr1 hc1 h hsm
  go_enter Try.func17, Try.ntmps17
  go_wp2_with fail
  go_loopw [5, 7, 10] (fun s5 _ s10 wr => ∃ j : Nat, j ≤ l1.length ∧ s10 = .int .i64 j ∧ Aside0 (Kd.R k27 27 wr w.heap.size (fun _ => True) s5 ((l1.take j).flatMap (sc1 l0))) ∧ Aside0 (((l1.take j).flatMap (sc1 l0)).length ≤ j * 1000) ∧ Aside0 ((l1.take j).all (validS l0) = true) ∧ Aside0 (Below w.heap.size w wr)) (fun _ _ s10 _ => l1.length - (intOf s10).toNat)
  case atStart => exact ⟨0, Nat.zero_le _, rfl, ⟨Kd.R_nil _ _ _ _ _⟩, ⟨by simp⟩, ⟨rfl⟩, ⟨Below.refl _ _⟩⟩
  case round =>
    obtain ⟨j, hj, rfl, HO, HLn, HV, HW⟩ := hrel
    by_cases hlt : j < l1.length
    · have hjz : (j : Int) < (l1.length : Int) := by omega
      obtain ⟨ad, e0, hx0, hx1, hx2⟩ := at_T27 (Kd.C_below HR1.out HW.out) (j : Int) (by omega) (by omega)
      cases e0
      simp only [Int.toNat_natCast] at hx0 hx1 hx2
      have hrd : rd_T27 l1 (j : Int) = l1[j] := by simp [rd_T27, List.getD_eq_getElem?_getD, hlt]
      rw [hrd] at hx0 hx1 hx2
      clear hrd
      cases hv : validS l0 l1[j] with
      | false =>
        have HVf : Aside0 (scalars l0 l1 = []) := ⟨by
          unfold scalars
          rw [if_neg]
          intro hall
          have := List.all_eq_true.1 hall _ (List.getElem_mem hlt)
          rw [hv] at this
          cases this⟩
        have HVV : Aside0 (types_Valid.f l1[j].f0 l1[j].f1 l1[j].f2 l0 = some false) := ⟨congrArg some hv⟩
        clear hv
        go_wp2_with fail
        refine (types_Valid.calls _ _ _ A0 c0 l0 _ _ (Kd.C_below HR0.out (HW.out.alloc HW.out.size _)) HC0.out HVV.out).mono ?_
        rintro e w3 ⟨rfl, hb3⟩
        have HB3 : Aside0 (Below w.heap.size w w3) := ⟨(HW.out.alloc HW.out.size _).trans (hb3.mono (by have := HW.out.size; simp; omega))⟩
        clear hb3
        go_wp2
        go_ret
        exact ⟨_, rfl, by rw [HVf.out]; exact Kd.R_nil _ _ _ _ _, HB3.out⟩
      | true =>
        obtain ⟨i, f, g, hfind, eg, hn1000, hcl⟩ := pick l0 HSm.out l1[j] hv A0 c0 HC0.out
        have HVV : Aside0 (types_Valid.f l1[j].f0 l1[j].f1 l1[j].f2 l0 = some true) := ⟨congrArg some hv⟩
        have HVt := Aside0.mk hv
        have HCL := Aside0.mk hcl
        have HN := Aside0.mk hn1000
        have HFi := Aside0.mk hfind
        clear hv hcl hn1000 hfind
        go_wp2_with fail
        refine (types_Valid.calls _ _ _ A0 c0 l0 _ _ (Kd.C_below HR0.out (HW.out.alloc HW.out.size _)) HC0.out HVV.out).mono ?_
        rintro e w3 ⟨rfl, hb3⟩
        have HB3 : Aside0 (Below wr.heap.size wr w3) := ⟨((Below.refl _ _).alloc (Nat.le_refl _) _).trans (hb3.mono (by simp))⟩
        have hz3 : wr.heap.size < w3.heap.size := by have := hb3.size; simp at this; omega
        have hy0 : w3.cell? ⟨wr.heap.size, 0, none⟩ = some (.int .i64 l1[j].f0) := by rw [hb3.cell (by simp)]; simp
        have hy1 : w3.cell? ⟨wr.heap.size, 1, none⟩ = some (.int .i64 l1[j].f1) := by rw [hb3.cell (by simp)]; simp
        have hy2 : w3.cell? ⟨wr.heap.size, 2, none⟩ = some (.string l1[j].f2) := by rw [hb3.cell (by simp)]; simp
        clear hb3 hx0 hx1 hx2
        have hl2 : Sem.run Try.prog (Instr.lookup 71 (.map (some w3.heap.size)) (.int .i64 l1[j].f0) false) (w3.alloc (.map shapeEs 4)).drew = .ok (.agg #[.func (.func f) #[] #[], .func (.func g) #[] #[]]) (w3.alloc (.map shapeEs 4)).drew := by
          rw [look71 _ false i _ HFi.out _ _ (by simpa [World.drew] using heap_alloc_new w3 _)]; rfl
        have hfl : ∀ w : World, Sem.run Try.prog (Instr.field 69 (.agg #[.func (.func f) #[] #[], .func (.func g) #[] #[]]) 1) w = .ok (.func (.func g) #[] #[]) w := fun _ => by kernel_rfl
        have HB4 : Aside0 (Below w.heap.size w (w3.alloc (.map shapeEs 4)).drew) := ⟨((HW.out.trans (HB3.out.mono HW.out.size)).alloc (Nat.le_trans HW.out.size (Nat.le_of_lt hz3)) _).drew⟩
        have HB5 : Aside0 (Below wr.heap.size wr (w3.alloc (.map shapeEs 4)).drew) := ⟨(HB3.out.alloc (Nat.le_of_lt hz3) _).drew⟩
        have HCl : Aside0 (Kd.C k63 (w3.alloc (.map shapeEs 4)).drew A0 l0.length l0) := ⟨Kd.C_below HR0.out HB4.out⟩
        have HX : Aside0 (∀ w5, Below (w3.alloc (.map shapeEs 4)).drew.heap.size (w3.alloc (.map shapeEs 4)).drew w5 → Below w.heap.size w w5 ∧ Below wr.heap.size wr w5 ∧ w.heap.size ≤ w5.heap.size) := ⟨fun w5 h5 =>
          ⟨HB4.out.trans (h5.mono HB4.out.size), HB5.out.trans (h5.mono HB5.out.size), Nat.le_trans HB4.out.size h5.size⟩⟩
        have HY : Aside0 (∀ w5 w6 : World, Below wr.heap.size wr w5 → (w5.cell? ⟨wr.heap.size, 0, none⟩ = some (.int .i64 l1[j].f0) ∧ w5.cell? ⟨wr.heap.size, 1, none⟩ = some (.int .i64 l1[j].f1) ∧ w5.cell? ⟨wr.heap.size, 2, none⟩ = some (.string l1[j].f2)) → w5.grownBy w6 u5.ownBlock →
            (w6.cell? ⟨wr.heap.size, 0, none⟩ = some (.int .i64 l1[j].f0) ∧ w6.cell? ⟨wr.heap.size, 1, none⟩ = some (.int .i64 l1[j].f1) ∧ w6.cell? ⟨wr.heap.size, 2, none⟩ = some (.string l1[j].f2))) := ⟨fun w5 w6 hb h hg => by
          have hne : some wr.heap.size ≠ u5.ownBlock := fun e => by
            obtain ⟨inner, ho⟩ := Kd.R_own HO.out
            have := own_lt ho wr.heap.size e.symm
            omega
          have hlt5 : wr.heap.size < w5.heap.size := World.block_lt_of_cell? w5 _ h.1
          have hblk := hg.block wr.heap.size hlt5 hne
          exact ⟨(World.cell?_of_block (w := w5) hblk).trans h.1, (World.cell?_of_block (w := w5) hblk).trans h.2.1, (World.cell?_of_block (w := w5) hblk).trans h.2.2⟩⟩
        have HZ : Aside0 (∀ w5 : World, Below (w3.alloc (.map shapeEs 4)).drew.heap.size (w3.alloc (.map shapeEs 4)).drew w5 → (w5.cell? ⟨wr.heap.size, 0, none⟩ = some (.int .i64 l1[j].f0) ∧ w5.cell? ⟨wr.heap.size, 1, none⟩ = some (.int .i64 l1[j].f1) ∧ w5.cell? ⟨wr.heap.size, 2, none⟩ = some (.string l1[j].f2))) := ⟨fun w5 h5 => by
          have e : ∀ o, w5.cell? ⟨wr.heap.size, o, none⟩ = w3.cell? ⟨wr.heap.size, o, none⟩ := fun o => by
            rw [h5.cell (p := ⟨wr.heap.size, o, none⟩) (by simp [World.drew]; omega)]
            exact World.cell?_alloc_past _ _ _ hz3
          exact ⟨(e 0).trans hy0, (e 1).trans hy1, (e 2).trans hy2⟩⟩
        have hlen : (((l1.take j).flatMap (sc1 l0)).length + (sc1 l0 l1[j]).length) * 32 ≤ 140737488355328 := by
          have h1 := HLn.out
          have h2 := HN.out
          omega
        have HLen := Aside0.mk hlen
        clear hlen
        go_wp2_with fail
        go_region_held3 (fun w' => w'.cell? ⟨wr.heap.size, 0, none⟩ = some (.int .i64 l1[j].f0) ∧ w'.cell? ⟨wr.heap.size, 1, none⟩ = some (.int .i64 l1[j].f1) ∧ w'.cell? ⟨wr.heap.size, 2, none⟩ = some (.string l1[j].f2))
          (first | go_keep | exact HK6.out | exact HK5.out)
          (first
            | (go_at_call 33; refine (shapes_calls _).mono ?_; rintro e w1 ⟨rfl, rfl⟩)
            | (go_at_fn g; refine (HCL.out _ HCl.out).mono ?_; rintro e w5 ⟨v5, rfl, hR5, hB5⟩; obtain ⟨A5, c5, rfl, hle5, hC5⟩ := Kd.R_reads hR5; have HW5 := Aside0.mk (HX.out w5 hB5); have HC5 := Aside0.mk hC5; have HK5 : Aside0 (w5.cell? ⟨wr.heap.size, 0, none⟩ = some (.int .i64 l1[j].f0) ∧ w5.cell? ⟨wr.heap.size, 1, none⟩ = some (.int .i64 l1[j].f1) ∧ w5.cell? ⟨wr.heap.size, 2, none⟩ = some (.string l1[j].f2)) := ⟨HZ.out w5 hB5⟩; clear hR5 hB5 hle5 hC5)
            | ((with_reducible refine gateS 27 rfl ?_); refine Kd.R_append_rows_step (w0 := w) k27 w.heap.size (by rfl) (.tmp 18) (.tmp 26) 23 27 (.agg #[(.int .i64 0), (.int .i64 0), (.string ⟨#[]⟩)]) 32 (by rfl) Try.underlying23 info27 (by rfl) (by decide) (by decide) u5 ((l1.take j).flatMap (sc1 l0)) (sc1 l0 l1[j]) A5 (sc1 l0 l1[j]).length c5 (fun _ => True) (fun _ => False) (by rfl) (by rfl) (Kd.R_below HO.out HW5.out.2.1) HC5.out (by intro x cs h; obtain rfl := k27_open h; exact k27_mkM _ _ _ x) (fun _ h => h.elim) (fun _ _ => trivial) HW5.out.1 HW5.out.2.2 HLen.out ?_; intro v1 w6 hR6 hB6 hG6 _; have HR6 := Aside0.mk hR6; have HB6 := Aside0.mk hB6; have HK6 := Aside0.mk (HY.out w5 w6 HW5.out.2.1 HK5.out hG6); clear hR6 hB6 hG6))
        have HO6 : Aside0 (Kd.R k27 27 w6 w.heap.size (fun _ => True) v1 ((l1.take (j + 1)).flatMap (sc1 l0))) := ⟨by
          rw [List.take_succ_eq_append_getElem hlt, List.flatMap_append]
          simpa using HR6.out⟩
        have HL6 : Aside0 (((l1.take (j + 1)).flatMap (sc1 l0)).length ≤ (j + 1) * 1000) := ⟨by
          rw [List.take_succ_eq_append_getElem hlt, List.flatMap_append, List.length_append]
          have h1 := HLn.out
          have h2 := HN.out
          simp only [List.flatMap_cons, List.flatMap_nil, List.append_nil]
          omega⟩
        have HV6 : Aside0 ((l1.take (j + 1)).all (validS l0) = true) := ⟨by
          rw [List.take_succ_eq_append_getElem hlt, List.all_append, HV.out]
          simp [HVt.out]⟩
        clear HR6 HK6 HK5 HC5 HW5 HLen HX HCl HB5 HB4 HY HZ hy0 hy1 hy2 HO HLn HV HVV HVt HCL HN HFi hl2 hfl
        go_wp2
        go_roundw
        case rel => exact ⟨j + 1, by omega, by go_num, HO6, HL6, HV6, HB6⟩
        case measure => simp [intOf]; omega
    · have hjz : ¬ (j : Int) < (l1.length : Int) := by omega
      go_wp2
      go_ret
      refine ⟨_, rfl, ?_, HW.out⟩
      have h1 := HO.out
      have h2 := HV.out
      rw [List.take_of_length_le (by omega)] at h1 h2
      unfold scalars
      rw [if_pos h2]
      exact h1
end Go.Proofs.Ytigkoknabliboaa.PAll
