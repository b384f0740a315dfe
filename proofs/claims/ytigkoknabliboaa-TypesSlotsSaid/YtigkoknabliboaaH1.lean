/- The program's lookups of records and fields: what the calls of types.record, types.Member's closure and slices.IndexFunc come to. Under no condition. -/
import Derived.Test.YtigkoknabliboaaPAllx0
import Derived.Test.YtigkoknabliboaaPAllxe27
import Derived.Shelf.Abstract
namespace Go.Proofs.Ytigkoknabliboaa.PAll
open Go.RowKit Go.Proofs.YtigkoknabliboaaW.PrintWords Go.Proofs.YtigkoknabliboaaW.PrintLast Go.Proofs.YtigkoknabliboaaW.PrintMore
set_option linter.unusedVariables false
set_option linter.unusedSimpArgs false

theorem bcell {W w1 : World} (hb : Below W.heap.size W w1) : (∀ b o, b < W.heap.size → w1.cell? ⟨b, o, none⟩ = W.cell? ⟨b, o, none⟩) ∧ (∀ b o, b < W.heap.size → w1.frozen? ⟨b, o, none⟩ = W.frozen? ⟨b, o, none⟩) :=
  ⟨fun b o h => hb.cell (p := ⟨b, o, none⟩) h, fun b o h => hb.frozen (p := ⟨b, o, none⟩) h⟩

/-- the first place at which p holds -/
def idx {α : Type} (p : α → Bool) (l : List α) : Int := match l.findIdx? p with | some i => (i : Int) | none => -1

theorem idx_hit {α : Type} (p : α → Bool) (l : List α) (k : Nat) (h : k < l.length) (hp : p l[k] = true) (hb : ∀ j (h : j < k) (h2 : j < l.length), p l[j] = false) : idx p l = (k : Int) := by
  have e : l.findIdx? p = some k := List.findIdx?_eq_some_iff_getElem.2 ⟨h, hp, fun j hj => by simp [hb j hj (by omega)]⟩
  simp [idx, e]
theorem idx_miss {α : Type} (p : α → Bool) (l : List α) (hb : ∀ j (h2 : j < l.length), p l[j] = false) : idx p l = -1 := by
  have e : l.findIdx? p = none := List.findIdx?_eq_none_iff.2 (fun x hx => by
    obtain ⟨j, hj, rfl⟩ := List.getElem_of_mem hx
    simp [hb j hj])
  simp [idx, e]
theorem idx_some {α : Type} (p : α → Bool) (l : List α) (h : 0 ≤ idx p l) : ∃ (k : Nat) (hk : k < l.length), idx p l = (k : Int) ∧ p l[k] = true ∧ ∀ j (h : j < k) (h2 : j < l.length), p l[j] = false := by
  unfold idx at h ⊢
  cases e : l.findIdx? p with
  | none => rw [e] at h; simp at h
  | some k =>
    obtain ⟨hk, hp, hb⟩ := List.findIdx?_eq_some_iff_getElem.1 e
    exact ⟨k, hk, rfl, hp, fun j hj h2 => by simpa using hb j hj⟩
theorem idx_neg {α : Type} (p : α → Bool) (l : List α) (h : idx p l < 0) : ∀ j (h2 : j < l.length), p l[j] = false := by
  intro j hj
  unfold idx at h
  cases e : l.findIdx? p with
  | none => simpa using List.findIdx?_eq_none_iff.1 e _ (List.getElem_mem hj)
  | some k => rw [e] at h; simp at h; omega

/-- A function value that answers p x, turns nothing that lay in w, and may lay blocks. -/
def Pred {α : Type} (g : Nat) (lb : Array Value) (V : α → World → Value → Prop) (p : α → Bool) (w : World) : Prop :=
  ∀ (W : World) (x : α) (v : Value), Below w.heap.size w W → V x W v → Calls Try.prog g (#[v] ++ lb) W fun e w' => e = .returned (.bool (p x)) ∧ Below W.heap.size W w'

set_option maxHeartbeats 1000000 in
theorem record1_calls (n name : ByteArray) (fs : Value) (B : Nat) (W : World) (hc : W.cell? ⟨B, 0, none⟩ = some (.string name)) (hB : B < W.heap.size) (h1 : fs.oneCell' = true) :
    Calls Try.prog 69 #[.agg #[.string n, fs], .pointer (some ⟨B, 0, none⟩)] W fun e w' => e = .returned (.bool (n.toList == name.toList)) ∧ Below W.heap.size W w' := by
  go_enter Try.func69, Try.ntmps69
  go_wp2
  go_ret
  exact ⟨by simp, (Below.refl _ _).alloc (Nat.le_refl _) _⟩

set_option maxHeartbeats 2000000 in
theorem indexRec_calls (A0 : Option Addr) (c0 : Nat) (l0 : List S63) (g : Nat) (lb : Array Value) (eg : ∀ args w, (callFunc g args).run Try.prog w = .ok (.enter g args) w) (p : S63 → Bool) (w : World) (hr0 : Kd.C k63 w A0 l0.length l0) (hc0 : l0.length ≤ c0)
    (hp : Pred g lb (fun (x : S63) W v => ∃ fs : Value, v = .agg #[.string x.f0, fs] ∧ fs.oneCell' = true) p w) :
    Calls Try.prog 68 #[.slice A0 l0.length c0, .func (.func g) #[] lb] w fun e w' => e = .returned (.int .i64 (idx p l0)) ∧ Below w.heap.size w w' := by
  have HR0 := Aside0.mk hr0
  have HC0 := Aside0.mk hc0
  have HP := Aside0.mk hp
  have hlen : l0.length ≤ 9223372036854775807 := hr0.2.1
  clear hr0 hc0 hp
  go_enter Try.func68, Try.ntmps68
  go_wp2
  go_loopg [5, 8] l0.length (fun gg _ s8 wr => ∃ kk : Nat, kk ≤ l0.length ∧ l0.length - kk ≤ gg ∧ s8 = .int .i64 kk ∧ Aside0 (Below w.heap.size w wr) ∧ Aside0 (∀ j (h : j < kk) (h2 : j < l0.length), p l0[j] = false))
  case atStart => exact ⟨0, Nat.zero_le _, by omega, rfl, ⟨Below.refl _ w⟩, ⟨fun j hj => absurd hj (Nat.not_lt_zero _)⟩⟩
  case round =>
    obtain ⟨kk, hkk, hg, rfl, BW, A⟩ := hrel
    by_cases hlt : kk < l0.length
    · have hltz : (kk : Int) < (l0.length : Int) := by omega
      obtain ⟨ad101, A101_1, c101_1, e101, hx101_0, hx101_1, hl101_1, hi101_1⟩ := at_T63 (Kd.C_below HR0.out BW.out) (kk : Int) (by omega) (by omega)
      cases e101
      simp only [Int.toNat_natCast] at hx101_0 hx101_1
      have hrd : rd_T63 l0 (kk : Int) = l0[kk] := by simp [rd_T63, List.getD_eq_getElem?_getD, hlt]
      rw [hrd] at hx101_0 hx101_1 hl101_1 hi101_1
      have HH := Aside0.mk (And.intro hl101_1 hi101_1)
      clear hl101_1 hi101_1 hrd
      cases hq : p l0[kk] with
      | true =>
        have hcall := fun (v : Value) (hv : ∃ fs : Value, v = .agg #[.string (l0[kk]'hlt).f0, fs] ∧ fs.oneCell' = true) => HP.out wr (l0[kk]'hlt) v BW.out hv
        simp only [hq] at hcall
        have HQ := Aside0.mk hq
        have HL := Aside0.mk hcall
        clear hq hcall
        go_wp2_with (go_at_fn g; refine (HL.out _ ⟨_, rfl, rfl⟩).mono ?_; rintro e w' ⟨rfl, hb'⟩)
        go_ret
        exact ⟨by rw [idx_hit p l0 kk hlt HQ.out A.out]; rfl, BW.out.trans (hb'.mono BW.out.size)⟩
      | false =>
        have hcall := fun (v : Value) (hv : ∃ fs : Value, v = .agg #[.string (l0[kk]'hlt).f0, fs] ∧ fs.oneCell' = true) => HP.out wr (l0[kk]'hlt) v BW.out hv
        simp only [hq] at hcall
        have HQ := Aside0.mk hq
        have HL := Aside0.mk hcall
        clear hq hcall
        go_wp2_with (go_at_fn g; refine (HL.out _ ⟨_, rfl, rfl⟩).mono ?_; rintro e w' ⟨rfl, hb'⟩)
        go_roundg (l0.length - (kk + 1))
        case measure => omega
        case rel =>
          refine ⟨kk + 1, by omega, by omega, by go_num, ⟨BW.out.trans (hb'.mono BW.out.size)⟩, ⟨fun j hj h2 => ?_⟩⟩
          by_cases e : j = kk
          · subst e; exact HQ.out
          · exact A.out j (by omega) h2
    · have hltz : ¬ (kk : Int) < (l0.length : Int) := by omega
      have HK : Aside0 (kk = l0.length) := ⟨by omega⟩
      go_wp2
      go_ret
      exact ⟨by rw [idx_miss p l0 (fun j h2 => A.out j (by have := HK.out; omega) h2)]; rfl, BW.out⟩

/-- the first record with a name -/
def recIdx (l : List S63) (name : ByteArray) : Int := idx (fun r => r.f0.toList == name.toList) l
theorem eg69 : ∀ args w, (callFunc 69 args).run Try.prog w = .ok (.enter 69 args) w := enters_of Try.func69 (by kernel_rfl) rfl
/-- the closure of types.record -/
theorem record1_pred (name : ByteArray) (B : Nat) (w : World) (hc : w.cell? ⟨B, 0, none⟩ = some (.string name)) (hB : B < w.heap.size) :
    Pred 69 #[.pointer (some ⟨B, 0, none⟩)] (fun (x : S63) W v => ∃ fs : Value, v = .agg #[.string x.f0, fs] ∧ fs.oneCell' = true) (fun r => r.f0.toList == name.toList) w := by
  rintro W x v hb ⟨fs, rfl, h1⟩
  exact record1_calls x.f0 name fs B W ((hb.cell (p := ⟨B, 0, none⟩) hB).trans hc) (Nat.lt_of_lt_of_le hB hb.size) h1
theorem idx_neg1 {α : Type} (p : α → Bool) (l : List α) (h : idx p l < 0) : idx p l = -1 := by
  unfold idx at h ⊢
  cases e : l.findIdx? p with
  | none => rfl
  | some k => rw [e] at h; simp at h; omega
set_option maxHeartbeats 2000000 in
theorem record_none (A0 : Option Addr) (c0 : Nat) (l0 : List S63) (name : ByteArray) (w : World) (hr0 : Kd.C k63 w A0 l0.length l0) (hc0 : l0.length ≤ c0) (hi : recIdx l0 name < 0) :
    Calls Try.prog 38 #[.slice A0 l0.length c0, .string name] w fun e w' => e = .returned (.tuple #[.agg #[.string ⟨#[]⟩, .slice none 0 0], .bool false]) ∧ Below w.heap.size w w' := by
  have HR0 := Aside0.mk hr0
  have HC0 := Aside0.mk hc0
  have hi' := idx_neg1 _ _ hi
  have HI := Aside0.mk hi'
  clear hr0 hc0 hi hi'
  go_enter Try.func38, Try.ntmps38
  go_wp2_with fail
  refine (indexRec_calls A0 c0 l0 69 _ eg69 _ _ (Kd.C_below HR0.out ?_) HC0.out (record1_pred name w.heap.size _ ?_ ?_)).mono ?_
  · exact ((Below.refl _ _).alloc (Nat.le_refl _) _).alloc (by simp) _
  · simp
  · simp; omega
  rintro e w1 ⟨rfl, hb⟩
  rw [HI.out]
  obtain ⟨hc, hf⟩ := bcell hb
  have hz : w.heap.size + 1 < w1.heap.size := by have := hb.size; simp at this; omega
  have HB := Aside0.mk hb
  clear hb
  go_wp2
  refine bodyPost_ret (v := .tuple #[.agg #[.string ⟨#[]⟩, .slice none 0 0], .bool false]) (by simp [results, Try.results38, go_sem, hc, hz]) rfl ⟨rfl, ?_⟩
  have h1 : Below w.heap.size w w1 := (((Below.refl _ _).alloc (Nat.le_refl _) _).alloc (by simp) _).trans (HB.out.mono (by simp; omega))
  exact Below.setCell (Below.setCell h1 (by simp) _) (by simp) _
set_option maxHeartbeats 2000000 in
theorem record_some (A0 : Option Addr) (c0 : Nat) (l0 : List S63) (name : ByteArray) (k : Nat) (hk : k < l0.length) (w : World) (hr0 : Kd.C k63 w A0 l0.length l0) (hc0 : l0.length ≤ c0) (hi : recIdx l0 name = (k : Int)) :
    Calls Try.prog 38 #[.slice A0 l0.length c0, .string name] w fun e w' => ∃ (A : Option Addr) (c : Nat), e = .returned (.tuple #[.agg #[.string l0[k].f0, .slice A l0[k].f1.length c], .bool true]) ∧ l0[k].f1.length ≤ c ∧ k76.C w' A l0[k].f1.length l0[k].f1 ∧ Below w.heap.size w w' := by
  have HR0 := Aside0.mk hr0
  have HC0 := Aside0.mk hc0
  have HI := Aside0.mk hi
  clear hr0 hc0 hi
  go_enter Try.func38, Try.ntmps38
  go_wp2_with fail
  refine (indexRec_calls A0 c0 l0 69 _ eg69 _ _ (Kd.C_below HR0.out ?_) HC0.out (record1_pred name w.heap.size _ ?_ ?_)).mono ?_
  · exact ((Below.refl _ _).alloc (Nat.le_refl _) _).alloc (by simp) _
  · simp
  · simp; omega
  rintro e w1 ⟨rfl, hb⟩
  rw [show idx (fun r => r.f0.toList == name.toList) l0 = (k : Int) from HI.out]
  obtain ⟨hc, hf⟩ := bcell hb
  have hz : w.heap.size + 1 < w1.heap.size := by have := hb.size; simp at this; omega
  have h1 : Below w.heap.size w w1 := (((Below.refl _ _).alloc (Nat.le_refl _) _).alloc (by simp) _).trans (hb.mono (by simp; omega))
  obtain ⟨ad101, A101_1, c101_1, e101, hx101_0, hx101_1, hl101_1, hi101_1⟩ := at_T63 HR0.out (k : Int) (by omega) (by omega)
  cases e101
  replace hx101_0 := pw_cell_below h1 hx101_0
  replace hx101_1 := pw_cell_below h1 hx101_1
  simp only [Int.toNat_natCast] at hx101_0 hx101_1
  have hrd : rd_T63 l0 (k : Int) = l0[k] := by simp [rd_T63, List.getD_eq_getElem?_getD, hk]
  rw [hrd] at hx101_0 hx101_1 hl101_1 hi101_1
  have HH := Aside0.mk (And.intro hl101_1 hi101_1)
  have HB := Aside0.mk h1
  clear hb h1 hl101_1 hi101_1 hrd
  have hkz : (k : Int) < (l0.length : Int) := by omega
  have hkn : ((k : Int) < 0) = False := by simp
  go_wp2
  refine bodyPost_ret (v := .tuple #[.agg #[.string l0[k].f0, .slice A101_1 l0[k].f1.length c101_1], .bool true]) (by simp [results, Try.results38, go_sem, hc, hz]) rfl ⟨A101_1, c101_1, rfl, HH.out.1, ?_, ?_⟩
  · exact Kd.C_below HH.out.2 (Below.setCell (Below.setCell HB.out (by simp) _) (by simp) _)
  · exact Below.setCell (Below.setCell HB.out (by simp) _) (by simp) _
end Go.Proofs.Ytigkoknabliboaa.PAll
