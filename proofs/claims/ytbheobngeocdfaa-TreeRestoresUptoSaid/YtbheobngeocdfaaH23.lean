/- tree's replace: a tree in which some Kids of a node are others, and which shares nothing. -/
import Derived.Test.YtbheobngeocdfaaH21
namespace Go.Proofs.Ytbheobngeocdfaa.PAll
open Go.RowKit Go.Proofs.YtbheobngeocdfaaW.PrintWords Go.Proofs.YtbheobngeocdfaaW.PrintLast Go.Proofs.YtbheobngeocdfaaW.PrintMore
set_option linter.unusedVariables false
set_option linter.unusedSimpArgs false

/-- there is a node at p, and from and to are offsets of its Kids -/
def okRep : List Int → Int → Int → S24 → Bool
  | [], f, t, x => decide (0 ≤ f) && (decide (f ≤ t) && decide (t ≤ (x.f4.length : Int)))
  | i :: q, f, t, x => decide (0 ≤ i) && (decide (i < (x.f4.length : Int)) && okRep q f t (rd_T24 x.f4 i))
def rep24 : List Int → Int → Int → List S24 → S24 → S24
  | [], f, t, l, x => ⟨x.f0, x.f1, x.f2, x.f3, x.f4.take f.toNat ++ (l ++ x.f4.drop t.toNat)⟩
  | i :: q, f, t, l, x => ⟨x.f0, x.f1, x.f2, x.f3, x.f4.set i.toNat (rep24 q f t l (rd_T24 x.f4 i))⟩

theorem rep_eq (p : List Int) (f t : Int) (l : List S24) (x : S24) : rep24 p f t l x = ⟨x.f0, x.f1, x.f2, x.f3, (rep24 p f t l x).f4⟩ := by cases p <;> rfl
theorem came_length (l : List S24) : (came l).length = l.length := by simp [came]
theorem came_C {w W : World} {A : Option Addr} {l : List S24} (h : Kd.C (kB w) W A (came l).length (came l)) (hb : Below w.heap.size w W) : k24.C W A l.length l := by
  refine ⟨rfl, ?_, fun hp => ?_⟩
  · have := h.2.1; rwa [came_length] at this
  · obtain ⟨ad, e, hc⟩ := h.2.2 (by rw [came_length]; exact hp)
    refine ⟨ad, e, fun j p hj => ?_⟩
    obtain ⟨cs, h1, h2, h3⟩ := hc j (p, false) (by rw [came, List.getElem?_map, hj]; rfl)
    refine ⟨cs, h1, ?_, h3⟩
    rcases h2 with h2 | h2
    · cases h2.1
    · exact k24.K_below hb h2.2
theorem cat_len {xs l : List S24} {fn tn : Nat} (h : fn ≤ tn) : [xs.take fn, l, xs.drop tn].flatten.length ≤ xs.length + l.length := by
  simp; omega
theorem cat_pre {x : S24} {l : List S24} {fn tn : Nat} (h : fn ≤ tn) : (preL24 (x.f4.take fn ++ (l ++ x.f4.drop tn))).length ≤ (pre24 x).length + (preL24 l).length := by
  have h1 : preL24 x.f4 = preL24 (x.f4.take tn) ++ preL24 (x.f4.drop tn) := by rw [← preL24_append, List.take_append_drop]
  have h2 : x.f4.take tn = x.f4.take fn ++ (x.f4.take tn).drop fn := by
    have := (List.take_append_drop fn (x.f4.take tn)).symm
    rwa [List.take_take, Nat.min_eq_left h] at this
  have h3 := congrArg List.length h1
  have h4 := congrArg (fun z => (preL24 z).length) h2
  simp only [preL24_append, List.length_append] at h3 h4 ⊢
  have h5 : (pre24 x).length = (preL24 x.f4).length + 1 := by rw [pre24_eq x, List.length_cons]
  omega
theorem cat_C {W : World} {b : Nat} {x : S24} {l : List S24} {A A4 D : Option Addr} {c c4 fn tn : Nat} (hb : W.heap[b]? = some (.cells #[.slice A fn c, .slice A4 l.length c4, .slice D (x.f4.length - tn) (c - tn)] 22 (0, 0)))
    (hC : k24.C W A x.f4.length x.f4) (hc : x.f4.length ≤ c) (h1 : fn ≤ tn) (h2 : tn ≤ x.f4.length) (hD : D = (if c = tn then A else Option.map (fun x => x.add (tn * 5)) A)) (hC4 : k24.C W A4 l.length l) (hc4 : l.length ≤ c4) :
    Kd.C (Kd.slice 24 k24) W (some ⟨b, 0, none⟩) [x.f4.take fn, l, x.f4.drop tn].length [x.f4.take fn, l, x.f4.drop tn] := by
  have e1 : (x.f4.take fn).length = fn := by rw [List.length_take]; omega
  have e2 : (x.f4.drop tn).length = x.f4.length - tn := List.length_drop
  have g1 := Kd.C_take hC (show fn ≤ x.f4.length by omega)
  have g2 := Kd.C_drop hC h2 hc
  have hD' : D = (if c = tn then A else A.map (·.add (tn * k24.sz))) := hD
  rw [← hD'] at g2
  refine ⟨rfl, (show 3 ≤ 9223372036854775807 by decide), fun _ => ⟨_, rfl, fun j p hj => ?_⟩⟩
  match j, hj with
  | 0, hj =>
    cases hj
    refine ⟨[.slice A (x.f4.take fn).length c], rfl, ⟨A, c, rfl, by omega, g1⟩, fun i u hu => ?_⟩
    cases i with
    | zero => cases hu; rw [e1]; exact (blk_cell hb 0).trans rfl
    | succ i => cases hu
  | 1, hj =>
    cases hj
    refine ⟨[.slice A4 l.length c4], rfl, ⟨A4, c4, rfl, hc4, hC4⟩, fun i u hu => ?_⟩
    cases i with
    | zero => cases hu; exact (blk_cell hb 1).trans rfl
    | succ i => cases hu
  | 2, hj =>
    cases hj
    refine ⟨[.slice D (x.f4.drop tn).length (c - tn)], rfl, ⟨D, c - tn, rfl, by omega, g2⟩, fun i u hu => ?_⟩
    cases i with
    | zero => cases hu; rw [e2]; exact (blk_cell hb 2).trans rfl
    | succ i => cases hu
  | j + 3, hj => cases hj
set_option maxRecDepth 100000 in
set_option maxHeartbeats 8000000 in
theorem replace_calls (l : List S24) (f t : Int) : ∀ (p : List Int) (x : S24), okRep p f t x = true → (pre24 x).length + (preL24 l).length < 1099511627775 → ∀ (A : Option Addr) (c : Nat) (A1 : Option Addr) (c1 : Nat) (A4 : Option Addr) (c4 : Nat) (w : World), k24.C w A x.f4.length x.f4 → x.f4.length ≤ c → Kd.C (Kd.int .i64) w A1 p.length p → p.length ≤ c1 → k24.C w A4 l.length l → l.length ≤ c4 → p.length < 1099511627776 →
    Calls Try.prog 53 #[val24 x A c, .slice A1 p.length c1, .int .i64 f, .int .i64 t, .slice A4 l.length c4] w fun e w' => ∃ v : Value, e = .returned (.agg #[.int .i64 x.f0, .string x.f1, .int .i64 x.f2, .int .i64 x.f3, v]) ∧ Kd.R k24 24 w' w.heap.size (fun _ => True) v (rep24 p f t l x).f4 ∧ Below w.heap.size w w' := by
  intro p
  induction p with
  | nil =>
    intro x hok hN A c A1 c1 A4 c4 w hC hc hC1 hc1 hC4 hc4 hp
    simp only [okRep, Bool.and_eq_true, decide_eq_true_eq] at hok
    obtain ⟨hf0, hft, htl⟩ := hok
    have HN := Aside0.mk hN
    have HC := Aside0.mk hC
    have HC4 := Aside0.mk hC4
    have HLC := Aside0.mk hc
    have HLC4 := Aside0.mk hc4
    clear hN hC hC1 hC4 hc1 hp
    have hu24 := Try.underlying24
    have hu22 := Try.underlying22
    have hu33 := Try.underlying33
    simp only [val24]
    obtain ⟨fn, rfl⟩ : ∃ n : Nat, f = (n : Int) := ⟨f.toNat, by omega⟩
    obtain ⟨tn, rfl⟩ : ∃ n : Nat, t = (n : Int) := ⟨t.toNat, by omega⟩
    have HFT : Aside0 (fn ≤ tn ∧ tn ≤ x.f4.length) := ⟨by omega⟩
    have hfc : fn ≤ c := by omega
    have htn : tn ≤ x.f4.length := by omega
    clear hf0 hft htl hc hc4
    go_enter Try.func53, Try.ntmps53
    go_wp2_with fail
    obtain ⟨W1, hW1⟩ : ∃ W1, W1 = ((w.alloc (.cells #[.int .i64 x.f0, .string x.f1, .int .i64 x.f2, .int .i64 x.f3, .slice A x.f4.length c] 24)).alloc (.cells #[.int .i64 0, .string ⟨#[]⟩, .int .i64 0, .int .i64 0, .slice none 0 0] 24)) := ⟨_, rfl⟩
    have BN : Aside0 (W1.heap[w.heap.size]? = some (.cells #[.int .i64 x.f0, .string x.f1, .int .i64 x.f2, .int .i64 x.f3, .slice A x.f4.length c] 24 (0, 0))) := ⟨by rw [hW1]; exact blk_alloc (blk_new w _) _⟩
    have BR : Aside0 (W1.heap[w.heap.size + 1]? = some (.cells #[.int .i64 0, .string ⟨#[]⟩, .int .i64 0, .int .i64 0, .slice none 0 0] 24 (0, 0))) := ⟨by rw [hW1]; have := blk_new (w.alloc (.cells #[.int .i64 x.f0, .string x.f1, .int .i64 x.f2, .int .i64 x.f3, .slice A x.f4.length c] 24)) (.cells #[.int .i64 0, .string ⟨#[]⟩, .int .i64 0, .int .i64 0, .slice none 0 0] 24); simpa using this⟩
    have BB : Aside0 (Below w.heap.size w W1) := ⟨by rw [hW1]; exact ((Below.refl w.heap.size w).alloc (Nat.le_refl _) _).alloc (by simp) _⟩
    rw [← hW1]
    clear hW1
    have BN := Aside0.mk (blk_drew BN.out)
    have BR := Aside0.mk (blk_drew BR.out)
    have BB := Aside0.mk (below_drew1 BB.out)
    refine start_ (n := 14) (S := fun w' => w'.cell? ⟨w.heap.size, 4, none⟩ = some (.slice A x.f4.length c)) (ds := [13]) #[false, false, false, false, false, false, false, false, false, false, false, false, false, false] (by kernel_rfl) rfl rfl ((blk_cell BN.out 4).trans rfl) (fun hHeld => ?_)
    generalize W1.drew = w4 at BN BR BB hHeld ⊢
    refine pure_ (i := 0) (N := some 14) (v := ?_) (a' := ?_) #[true, false, false, false, false, false, false, false, false, false, false, false, false, false] rfl rfl (by kernel_rfl) (fun _ _ _ h => h) (Or.inl ⟨by rfl, ?_⟩) ?_ ?_
    rotate_left
    · intro w'
      go_simp
      with_reducible rfl
    rotate_left
    · simp only [Act.put, List.setIfInBounds_toArray, List.set_cons_zero, List.set_cons_succ, i64_w, i32_w]
      rfl
    refine pure_ (i := 2) (N := some 16) (v := ?_) (a' := ?_) #[true, false, true, false, false, false, false, false, false, false, false, false, false, false] rfl rfl (by kernel_rfl) (fun _ _ _ h => h) (Or.inl ⟨by rfl, ?_⟩) ?_ ?_
    rotate_left
    · intro w'
      go_simp
      with_reducible rfl
    rotate_left
    · simp only [Act.put, List.setIfInBounds_toArray, List.set_cons_zero, List.set_cons_succ, i64_w, i32_w]
      rfl
    refine pure_ (i := 4) (N := some 18) (v := ?_) (a' := ?_) #[true, false, true, false, true, false, false, false, false, false, false, false, false, false] rfl rfl (by kernel_rfl) (fun _ _ _ h => h) (Or.inl ⟨by rfl, ?_⟩) ?_ ?_
    rotate_left
    · intro w'
      go_simp
      with_reducible rfl
    rotate_left
    · simp only [Act.put, List.setIfInBounds_toArray, List.set_cons_zero, List.set_cons_succ, i64_w, i32_w]
      rfl
    refine pure_ (i := 5) (N := some 19) (v := ?_) (a' := ?_) #[true, false, true, false, true, true, false, false, false, false, false, false, false, false] rfl rfl (by kernel_rfl) (fun _ _ _ h => h) (Or.inl ⟨by rfl, ?_⟩) ?_ ?_
    rotate_left
    · intro w'
      go_simp
      with_reducible rfl
    rotate_left
    · simp only [Act.put, List.setIfInBounds_toArray, List.set_cons_zero, List.set_cons_succ, i64_w, i32_w]
      rfl
    refine pure_ (i := 7) (N := some 21) (v := ?_) (a' := ?_) #[true, false, true, false, true, true, false, true, false, false, false, false, false, false] rfl rfl (by kernel_rfl) (fun _ _ _ h => h) (Or.inl ⟨by rfl, ?_⟩) ?_ ?_
    rotate_left
    · intro w'
      go_simp
      with_reducible rfl
    rotate_left
    · simp only [Act.put, List.setIfInBounds_toArray, List.set_cons_zero, List.set_cons_succ, i64_w, i32_w]
      rfl
    refine take_ (i := 1) (N := some 15) (v := ?_) (a' := ?_) #[true, true, true, false, true, true, false, true, false, false, false, false, false, false] rfl rfl (by kernel_rfl) (fun _ _ _ h => h) (Or.inl ⟨by rfl, ?_⟩) hHeld ?_ ?_
    rotate_left
    · rintro w' s0
      go_simp
      with_reducible rfl
    rotate_left
    · simp only [Act.put, List.setIfInBounds_toArray, List.set_cons_zero, List.set_cons_succ, i64_w, i32_w]
      rfl
    refine pure_ (i := 3) (N := some 17) (v := ?_) (a' := ?_) #[true, true, true, true, true, true, false, true, false, false, false, false, false, false] rfl rfl (by kernel_rfl) (fun _ _ _ h => h) (Or.inl ⟨by rfl, ?_⟩) ?_ ?_
    rotate_left
    · intro w'
      go_simp
      with_reducible rfl
    rotate_left
    · simp only [Act.put, List.setIfInBounds_toArray, List.set_cons_zero, List.set_cons_succ, i64_w, i32_w]
      rfl
    refine take_ (i := 6) (N := some 20) (v := ?_) (a' := ?_) #[true, true, true, true, true, true, true, true, false, false, false, false, false, false] rfl rfl (by kernel_rfl) (fun _ _ _ h => h) (Or.inl ⟨by rfl, ?_⟩) hHeld ?_ ?_
    rotate_left
    · rintro w' s0
      go_simp
      with_reducible rfl
    rotate_left
    · simp only [Act.put, List.setIfInBounds_toArray, List.set_cons_zero, List.set_cons_succ, i64_w, i32_w]
      rfl
    refine pure_ (i := 8) (N := some 22) (v := ?_) (a' := ?_) #[true, true, true, true, true, true, true, true, true, false, false, false, false, false] rfl rfl (by kernel_rfl) (fun _ _ _ h => h) (Or.inl ⟨by rfl, ?_⟩) ?_ ?_
    rotate_left
    · intro w'
      go_simp
      with_reducible rfl
    rotate_left
    · simp only [Act.put, List.setIfInBounds_toArray, List.set_cons_zero, List.set_cons_succ, i64_w, i32_w]
      rfl
    obtain ⟨D, hD⟩ : ∃ D, D = (if c = tn then A else Option.map (fun x => x.add (tn * 5)) A) := ⟨_, rfl⟩
    rw [← hD]
    have HD := Aside0.mk hD
    clear hD
    refine one_ (i := 9) (N := some 23) #[true, true, true, true, true, true, true, true, true, true, false, false, false, false] rfl rfl (by kernel_rfl) (by decide) (fun K hK => ?_)
    refine value_ (w1 := ?_) (v := ?_) (by rfl) rfl ?_ ?_
    rotate_left 2
    · go_simp
      constructor
      · rfl
      · rfl
    obtain ⟨w5, hw5⟩ : ∃ w5, w5 = w4.alloc (.cells #[.slice A fn c, .slice A4 l.length c4, .slice D (x.f4.length - tn) (c - tn)] 22) := ⟨_, rfl⟩
    have BL : Aside0 (w5.heap[w4.heap.size]? = some (.cells #[.slice A fn c, .slice A4 l.length c4, .slice D (x.f4.length - tn) (c - tn)] 22 (0, 0))) := ⟨by rw [hw5]; exact blk_new w4 _⟩
    have BN5 : Aside0 (w5.heap[w.heap.size]? = some (.cells #[.int .i64 x.f0, .string x.f1, .int .i64 x.f2, .int .i64 x.f3, .slice A x.f4.length c] 24 (0, 0))) := ⟨by rw [hw5]; exact blk_alloc BN.out _⟩
    have BR5 : Aside0 (w5.heap[w.heap.size + 1]? = some (.cells #[.int .i64 0, .string ⟨#[]⟩, .int .i64 0, .int .i64 0, .slice none 0 0] 24 (0, 0))) := ⟨by rw [hw5]; exact blk_alloc BR.out _⟩
    have BB5 : Aside0 (Below w.heap.size w w5) := ⟨by rw [hw5]; exact BB.out.alloc BB.out.size _⟩
    obtain ⟨b, hb⟩ : ∃ b, b = w4.heap.size := ⟨_, rfl⟩
    rw [← hw5, ← hb]
    rw [← hb] at BL
    clear hw5 hb
    refine hK.out _ _ ((blk_cell BN5.out 4).trans rfl) (fun hHeld => ?_)
    clear hK K BN BR BB
    refine norm_ (a' := ?_) ?_ ?_
    rotate_left
    · show Act.put _ (some 23) _ = _
      simp only [Act.put, List.setIfInBounds_toArray, List.set_cons_zero, List.set_cons_succ, i64_w, i32_w]
      rfl
    refine one_ (i := 10) (N := some 24) #[true, true, true, true, true, true, true, true, true, true, true, false, false, false] rfl rfl (by kernel_rfl) (by decide) (fun K hK => ?_)
    have hCC : Kd.C (Kd.slice 24 k24) w5 (some ⟨b, 0, none⟩) [x.f4.take fn, l, x.f4.drop tn].length [x.f4.take fn, l, x.f4.drop tn] := cat_C BL.out (Kd.C_below HC.out BB5.out) HLC.out HFT.out.1 HFT.out.2 HD.out (Kd.C_below HC4.out BB5.out) HLC4.out
    refine call_ 72 #[.slice (some ⟨b, 0, none⟩) 3 3] (by rfl) rfl (by go_simp) ?_
    refine (Concat_calls [x.f4.take fn, l, x.f4.drop tn] (some ⟨b, 0, none⟩) 3 w5 hCC (Nat.le_refl _) ?_ (show 3 < 1099511627776 by decide)).mono ?_
    · have h1 := len_preL24 x.f4; have h2 := len_preL24 l; have h3 := HN.out; have h4 : (pre24 x).length = (preL24 x.f4).length + 1 := (by rw [pre24_eq x, List.length_cons])
      have h5 : [x.f4.take fn, l, x.f4.drop tn].flatten.length ≤ x.f4.length + l.length := cat_len HFT.out.1
      omega
    rintro e w6 ⟨v, rfl, hR, hb6⟩
    have hfl : [x.f4.take fn, l, x.f4.drop tn].flatten = x.f4.take fn ++ (l ++ x.f4.drop tn) := by simp
    rw [hfl] at hR
    obtain ⟨A6, c6, rfl⟩ := R_form hR
    obtain ⟨hq1, hq2, hC6⟩ := Kd.R_reads' hR
    have hC7 := came_C hC6 hb6
    rw [came_length] at hq2
    obtain ⟨M, hM⟩ : ∃ M, M = (came (x.f4.take fn ++ (l ++ x.f4.drop tn))).length := ⟨_, rfl⟩
    have hM2 : M = (x.f4.take fn ++ (l ++ x.f4.drop tn)).length := by rw [hM, came_length]
    rw [← hM]
    have BN6 := Aside0.mk (blk_below BN5.out hb6)
    have BR6 := Aside0.mk (blk_below BR5.out hb6)
    have BB6 : Aside0 (Below w.heap.size w w6) := ⟨BB5.out.trans (hb6.mono BB5.out.size)⟩
    have HC7 := Aside0.mk hC7
    have HQ2 := Aside0.mk hq2
    have HM2 := Aside0.mk hM2
    clear hR hb6 hq1 hC6 hC7 hq2 hfl hM hM2
    refine ⟨_, rfl, ?_⟩
    refine hK.out _ _ ((blk_cell BN6.out 4).trans rfl) (fun hHeld => ?_)
    clear hK K BN5 BR5 BB5 hCC BL
    refine norm_ (a' := ?_) ?_ ?_
    rotate_left
    · show Act.put _ (some 24) _ = _
      simp only [Act.put, List.setIfInBounds_toArray, List.set_cons_zero, List.set_cons_succ, i64_w, i32_w]
      rfl
    refine one_ (i := 11) (N := some 25) #[true, true, true, true, true, true, true, true, true, true, true, true, false, false] rfl rfl (by kernel_rfl) (by decide) (fun K hK => ?_)
    refine call_ 71 #[.slice A6 M c6] (by rfl) rfl (by go_simp) ?_
    have hcc := copied_calls 1099511627775 (x.f4.take fn ++ (l ++ x.f4.drop tn)) (Nat.lt_of_le_of_lt (cat_pre HFT.out.1) HN.out)
    have hcc2 := hcc (show 1099511627775 < 1099511627776 by decide) A6 c6 w6
    rw [← HM2.out] at hcc2
    refine (hcc2 (by rw [HM2.out]; exact HC7.out) (by rw [HM2.out]; exact HQ2.out)).mono ?_
    clear hcc hcc2
    rintro e w7 ⟨V7, rfl, hR, hb7⟩
    obtain ⟨A7, c7, hv7⟩ := R_form hR
    rw [← HM2.out] at hv7
    subst hv7
    refine ⟨_, rfl, ?_⟩
    have BN7 := Aside0.mk (blk_below BN6.out hb7)
    have BR7 := Aside0.mk (blk_below BR6.out hb7)
    have BB7 : Aside0 (Below w.heap.size w w7) := ⟨BB6.out.trans (hb7.mono BB6.out.size)⟩
    have HS6 : Aside0 (w.heap.size + 1 < w6.heap.size) := ⟨blk_lt BR6.out⟩
    have HR7 : Aside0 (Kd.R k24 24 w7 w.heap.size (fun k => w.heap.size + 1 < k) (.slice A7 M c7) (x.f4.take fn ++ (l ++ x.f4.drop tn))) := ⟨Kd.R_lower (Kd.R_mono (Kd.R_bound hR) (fun k hk => by have := hk.2.1; have := HS6.out; omega)) BB6.out.size⟩
    clear hR hb7
    refine hK.out _ _ ((blk_cell BN7.out 4).trans rfl) (fun hHeld => ?_)
    clear hK K BN6 BR6 BB6
    refine norm_ (a' := ?_) ?_ ?_
    rotate_left
    · show Act.put _ (some 25) _ = _
      simp only [Act.put, List.setIfInBounds_toArray, List.set_cons_zero, List.set_cons_succ, i64_w, i32_w]
      rfl
    refine pure_ (i := 12) (N := some 26) (v := ?_) (a' := ?_) #[true, true, true, true, true, true, true, true, true, true, true, true, true, false] rfl rfl (by kernel_rfl) (fun _ _ _ h => h) (Or.inl ⟨by rfl, ?_⟩) ?_ ?_
    rotate_left
    · intro w'
      go_simp
      with_reducible rfl
    rotate_left
    · simp only [Act.put, List.setIfInBounds_toArray, List.set_cons_zero, List.set_cons_succ, i64_w, i32_w]
      rfl
    refine last_ (i := 13) (N := none) #[true, true, true, true, true, true, true, true, true, true, true, true, true, true] rfl rfl (by kernel_rfl) (by decide) (fun K hK => ?_)
    have hs4 : w7.cell? ⟨w.heap.size, 4, none⟩ = some (.slice A x.f4.length c) := (blk_cell BN7.out 4).trans rfl
    have hf4 := blk_frozen BN7.out 4
    refine skip_ (w1 := ?_) (by rfl) rfl ?_ ?_
    rotate_left
    · go_simp
      rfl
    refine hK.out _ _ ?_
    clear hK K hs4 hf4
    refine done_ (by kernel_rfl) ?_
    clear hHeld
    obtain ⟨w8, hw8⟩ : ∃ w8, w8 = w7.setCell ⟨w.heap.size, 4, none⟩ (.slice A7 M c7) := ⟨_, rfl⟩
    have BN8 : Aside0 (w8.heap[w.heap.size]? = some (.cells #[.int .i64 x.f0, .string x.f1, .int .i64 x.f2, .int .i64 x.f3, (.slice A7 M c7)] 24 (0, 0))) := ⟨by rw [hw8]; exact blk_put BN7.out 4 _ rfl⟩
    have BR8 : Aside0 (w8.heap[w.heap.size + 1]? = some (.cells #[.int .i64 0, .string ⟨#[]⟩, .int .i64 0, .int .i64 0, .slice none 0 0] 24 (0, 0))) := ⟨by rw [hw8]; exact (Below.heap_setCell w7 ⟨w.heap.size, 4, none⟩ (.slice A7 M c7) _ (show w.heap.size + 1 ≠ w.heap.size by omega)).trans BR7.out⟩
    have BB8 : Aside0 (Below w.heap.size w w8) := ⟨by rw [hw8]; exact below_set BB7.out (Nat.le_refl _)⟩
    have HR8 : Aside0 (Kd.R k24 24 w8 w.heap.size (fun k => w.heap.size + 1 < k) (.slice A7 M c7) (x.f4.take fn ++ (l ++ x.f4.drop tn))) := ⟨by rw [hw8]; exact Kd.R_far HR7.out (fun k hk => by show k ≠ w.heap.size; omega) _⟩
    rw [← hw8]
    clear hw8 BN7 BR7 BB7 HR7
    have n0 : w8.cell? ⟨w.heap.size, 0, none⟩ = some (.int .i64 x.f0) := (blk_cell BN8.out 0).trans rfl
    have r0 : w8.cell? ⟨w.heap.size + 1, 0, none⟩ = some (.int .i64 0) := (blk_cell BR8.out 0).trans rfl
    have q0 := blk_frozen BR8.out 0
    have n1 : w8.cell? ⟨w.heap.size, 1, none⟩ = some (.string x.f1) := (blk_cell BN8.out 1).trans rfl
    have r1 : w8.cell? ⟨w.heap.size + 1, 1, none⟩ = some (.string ⟨#[]⟩) := (blk_cell BR8.out 1).trans rfl
    have q1 := blk_frozen BR8.out 1
    have n2 : w8.cell? ⟨w.heap.size, 2, none⟩ = some (.int .i64 x.f2) := (blk_cell BN8.out 2).trans rfl
    have r2 : w8.cell? ⟨w.heap.size + 1, 2, none⟩ = some (.int .i64 0) := (blk_cell BR8.out 2).trans rfl
    have q2 := blk_frozen BR8.out 2
    have n3 : w8.cell? ⟨w.heap.size, 3, none⟩ = some (.int .i64 x.f3) := (blk_cell BN8.out 3).trans rfl
    have r3 : w8.cell? ⟨w.heap.size + 1, 3, none⟩ = some (.int .i64 0) := (blk_cell BR8.out 3).trans rfl
    have q3 := blk_frozen BR8.out 3
    have n4 : w8.cell? ⟨w.heap.size, 4, none⟩ = some (.slice A7 M c7) := (blk_cell BN8.out 4).trans rfl
    have r4 : w8.cell? ⟨w.heap.size + 1, 4, none⟩ = some (.slice none 0 0) := (blk_cell BR8.out 4).trans rfl
    have q4 := blk_frozen BR8.out 4
    go_wp2_with fail
    refine bodyPost_ret (results_cell_row rfl _ _ (w.heap.size + 1) 24 #[.int .i64 x.f0, .string x.f1, .int .i64 x.f2, .int .i64 x.f3, .slice A7 M c7] (0, 0) _ rfl ?_ hu24 rfl (by kernel_rfl)) rfl ?_
    · refine blk_put (cs := #[.int .i64 x.f0, .string x.f1, .int .i64 x.f2, .int .i64 x.f3, .slice none 0 0]) ?_ 4 _ rfl
      refine blk_put (cs := #[.int .i64 x.f0, .string x.f1, .int .i64 x.f2, .int .i64 0, .slice none 0 0]) ?_ 3 _ rfl
      refine blk_put (cs := #[.int .i64 x.f0, .string x.f1, .int .i64 0, .int .i64 0, .slice none 0 0]) ?_ 2 _ rfl
      refine blk_put (cs := #[.int .i64 x.f0, .string ⟨#[]⟩, .int .i64 0, .int .i64 0, .slice none 0 0]) ?_ 1 _ rfl
      refine blk_put (cs := #[.int .i64 0, .string ⟨#[]⟩, .int .i64 0, .int .i64 0, .slice none 0 0]) ?_ 0 _ rfl
      exact BR8.out
    refine ⟨_, rfl, ?_, ?_⟩
    · refine Kd.R_mono (ok := fun k => w.heap.size + 1 < k) ?_ (fun _ _ => trivial)
      iterate 5 refine Kd.R_far ?_ (fun k hk => by show k ≠ w.heap.size + 1; omega) _
      exact HR8.out
    · iterate 5 refine below_set ?_ (Nat.le_succ _)
      exact BB8.out
  | cons i q ih =>
    intro x hok hN A c A1 c1 A4 c4 w hC hc hC1 hc1 hC4 hc4 hp
    simp only [okRep, Bool.and_eq_true, decide_eq_true_eq] at hok
    obtain ⟨hi0, hil, hok⟩ := hok
    have HN := Aside0.mk hN
    have HC := Aside0.mk hC
    have HC1 := Aside0.mk hC1
    have HC4 := Aside0.mk hC4
    have HLC := Aside0.mk hc
    have HLC1 := Aside0.mk hc1
    have HLC4 := Aside0.mk hc4
    clear hN hC hC1 hC4 hc1
    have hu24 := Try.underlying24
    have hu22 := Try.underlying22
    have hu33 := Try.underlying33
    simp only [val24]
    obtain ⟨i, rfl⟩ : ∃ n : Nat, i = (n : Int) := ⟨i.toNat, by omega⟩
    have hi : i < x.f4.length := by omega
    have hrd : rd_T24 x.f4 (i : Int) = x.f4[i] := by simp [rd_T24, List.getElem?_eq_getElem hi]
    rw [hrd] at hok
    have HIH := Aside0.mk (ih x.f4[i] hok (by have h1 := pre_mem24 hi; have h2 := HN.out; have h3 : (pre24 x).length = (preL24 x.f4).length + 1 := (by rw [pre24_eq x, List.length_cons]); omega))
    have hrep : (rep24 ((i : Int) :: q) f t l x).f4 = x.f4.set i (rep24 q f t l x.f4[i]) := by show x.f4.set i (rep24 q f t l (rd_T24 x.f4 (i : Int))) = _; rw [hrd]
    have HCP := Aside0.mk (copied_calls 1099511627775 x.f4 (by have h2 := HN.out; have h3 : (pre24 x).length = (preL24 x.f4).length + 1 := (by rw [pre24_eq x, List.length_cons]); omega) (by decide) A c)
    have HP := Aside0.mk hp
    rw [hrep]
    clear ih hok hi0 hil hrd hc4 hc hp hrep
    go_enter Try.func53, Try.ntmps53
    go_wp2_with fail
    obtain ⟨W1, hW1⟩ : ∃ W1, W1 = ((w.alloc (.cells #[.int .i64 x.f0, .string x.f1, .int .i64 x.f2, .int .i64 x.f3, .slice A x.f4.length c] 24)).alloc (.cells #[.int .i64 0, .string ⟨#[]⟩, .int .i64 0, .int .i64 0, .slice none 0 0] 24)) := ⟨_, rfl⟩
    have BN : Aside0 (W1.heap[w.heap.size]? = some (.cells #[.int .i64 x.f0, .string x.f1, .int .i64 x.f2, .int .i64 x.f3, .slice A x.f4.length c] 24 (0, 0))) := ⟨by rw [hW1]; exact blk_alloc (blk_new w _) _⟩
    have BR : Aside0 (W1.heap[w.heap.size + 1]? = some (.cells #[.int .i64 0, .string ⟨#[]⟩, .int .i64 0, .int .i64 0, .slice none 0 0] 24 (0, 0))) := ⟨by rw [hW1]; have := blk_new (w.alloc (.cells #[.int .i64 x.f0, .string x.f1, .int .i64 x.f2, .int .i64 x.f3, .slice A x.f4.length c] 24)) (.cells #[.int .i64 0, .string ⟨#[]⟩, .int .i64 0, .int .i64 0, .slice none 0 0] 24); simpa using this⟩
    have BB : Aside0 (Below w.heap.size w W1) := ⟨by rw [hW1]; exact ((Below.refl w.heap.size w).alloc (Nat.le_refl _) _).alloc (by simp) _⟩
    rw [← hW1]
    clear hW1
    refine (HCP.out W1 (Kd.C_below HC.out BB.out) HLC.out).mono ?_
    clear HCP
    rintro e w2 ⟨V7, rfl, hR, hb⟩
    obtain ⟨A7, c7, hv7⟩ := R_form hR
    subst hv7
    have hS1 : w.heap.size + 1 < W1.heap.size := blk_lt BR.out
    have hA : ∃ g, A7 = some ⟨g, 0, none⟩ ∧ W1.heap.size ≤ g ∧ ∃ cur, w2.heap[g]? = some (.cells cur 24 (0, 0)) := by
      obtain ⟨_, inner, ho, _⟩ := hR
      rcases ho.2 with ⟨e, h0⟩ | ⟨g, cap, cur, e, h0, h1, _⟩
      · omega
      · injection e with e1; exact ⟨g, e1, h0, cur, h1⟩
    obtain ⟨g, rfl, hg, cur, hcur⟩ := hA
    have HG : Aside0 (w.heap.size + 1 < g) := ⟨by omega⟩
    have BN2 := Aside0.mk (blk_below BN.out hb)
    have BR2 := Aside0.mk (blk_below BR.out hb)
    have BB2 : Aside0 (Below w.heap.size w w2) := ⟨BB.out.trans (hb.mono BB.out.size)⟩
    have HR2 : Aside0 (Kd.R k24 24 w2 w.heap.size (fun k => w.heap.size + 1 < k) (.slice (some ⟨g, 0, none⟩) x.f4.length c7) x.f4) := ⟨Kd.R_lower (Kd.R_mono (Kd.R_bound hR) (fun k hk => by have := hk.2.1; omega)) BB.out.size⟩
    have HCU := Aside0.mk hcur
    have n4 : w2.cell? ⟨w.heap.size, 4, none⟩ = some (.slice A x.f4.length c) := (blk_cell BN2.out 4).trans rfl
    have hf4 := blk_frozen BN2.out 4
    clear hR hb hS1 hg hcur BN BR BB
    go_upto_region 5 with fail
    clear n4 hf4
    obtain ⟨w3, hw3⟩ : ∃ w3, w3 = w2.setCell ⟨w.heap.size, 4, none⟩ (.slice (some ⟨g, 0, none⟩) x.f4.length c7) := ⟨_, rfl⟩
    have BN3 : Aside0 (w3.heap[w.heap.size]? = some (.cells #[.int .i64 x.f0, .string x.f1, .int .i64 x.f2, .int .i64 x.f3, .slice (some ⟨g, 0, none⟩) x.f4.length c7] 24 (0, 0))) := ⟨by rw [hw3]; exact blk_put BN2.out 4 _ rfl⟩
    have BR3 : Aside0 (w3.heap[w.heap.size + 1]? = some (.cells #[.int .i64 0, .string ⟨#[]⟩, .int .i64 0, .int .i64 0, .slice none 0 0] 24 (0, 0))) := ⟨by rw [hw3]; exact (Below.heap_setCell w2 ⟨w.heap.size, 4, none⟩ _ _ (show w.heap.size + 1 ≠ w.heap.size by omega)).trans BR2.out⟩
    have BB3 : Aside0 (Below w.heap.size w w3) := ⟨by rw [hw3]; exact below_set BB2.out (Nat.le_refl _)⟩
    have HCU3 : Aside0 (w3.heap[g]? = some (.cells cur 24 (0, 0))) := ⟨by rw [hw3]; exact (Below.heap_setCell w2 ⟨w.heap.size, 4, none⟩ _ _ (show g ≠ w.heap.size by have := HG.out; omega)).trans HCU.out⟩
    have HR3 : Aside0 (Kd.R k24 24 w3 w.heap.size (fun k => w.heap.size + 1 < k) (.slice (some ⟨g, 0, none⟩) x.f4.length c7) x.f4) := ⟨by rw [hw3]; exact Kd.R_far HR2.out (fun k hk => by show k ≠ w.heap.size; omega) _⟩
    rw [← hw3]
    clear hw3 BN2 BR2 BB2 HR2 HCU
    obtain ⟨ad1, cs1, hA1, hcs1, hK1, hcell1⟩ := Kd.C_get (Kd.C_below HC1.out BB3.out) 0 0 (Int.le_refl _) (by simp)
    subst hA1
    obtain rfl : cs1 = [.int .i64 (i : Int)] := hK1
    have hp0 : w3.cell? ad1 = some (.int .i64 (i : Int)) := by have := hcell1 0 _ rfl; have e : ad1.add (Int.toNat 0 * (Kd.int .i64).sz + 0) = ad1 := (by show ad1.add 0 = ad1; simp [Addr.add]); rwa [e] at this
    clear hcs1 hcell1
    obtain ⟨hn1, hn2, hC3⟩ := Kd.R_reads' HR3.out
    obtain ⟨ad, cs, e0, hcs, hK, hcell0⟩ := Kd.C_get hC3 z24 (i : Int) (by omega) (by omega)
    cases e0
    have hget : x.f4.getD (i : Int).toNat z24 = x.f4[i] := by rw [Int.toNat_natCast, List.getD_eq_getElem?_getD, List.getElem?_eq_getElem hi]; rfl
    rw [hget] at hK
    obtain ⟨A5, c5, rfl, hl5, hC5⟩ := k24_open hK
    have hcell : ∀ j u, [Value.int .i64 x.f4[i].f0, .string x.f4[i].f1, .int .i64 x.f4[i].f2, .int .i64 x.f4[i].f3, .slice A5 x.f4[i].f4.length c5][j]? = some u → w3.cell? ⟨g, i * 5 + j, none⟩ = some u := fun j u hu => by
      have := hcell0 j u hu
      have e : (⟨g, 0, none⟩ : Addr).add ((i : Int).toNat * k24.sz + j) = ⟨g, i * 5 + j, none⟩ := by
        show (⟨g, 0, none⟩ : Addr).add ((i : Int).toNat * 5 + j) = ⟨g, i * 5 + j, none⟩
        rw [Int.toNat_natCast]; simp [Addr.add]; try (intros; omega)
      rwa [e] at this
    have y0 := hcell 0 _ rfl
    have y1 := hcell 1 _ rfl
    have y2 := hcell 2 _ rfl
    have y3 := hcell 3 _ rfl
    have y4 := hcell 4 _ rfl
    have HCE := Aside0.mk hcell
    have HL5 := Aside0.mk hl5
    have HC5 := Aside0.mk hC5
    have n4 : w3.cell? ⟨w.heap.size, 4, none⟩ = some (.slice (some ⟨g, 0, none⟩) x.f4.length c7) := (blk_cell BN3.out 4).trans rfl
    clear hcell hcell0 hget hK hl5 hC5 hC3 hn1 hn2 hcs
    have hi0 : (0 : Int) ≤ (i : Int) := by omega
    have hi1 : (i : Int) < (x.f4.length : Int) := by omega
    have hq1 : (1 : Int) ≤ (q.length : Int) + 1 := by omega
    have hS : ∀ {W : World}, Below w3.heap.size w3 W → (W.cell? ⟨w.heap.size, 4, none⟩ = some (.slice (some ⟨g, 0, none⟩) x.f4.length c7) ∧ W.cell? ad1 = some (.int .i64 (i : Int)) ∧ W.cell? ⟨g, i * 5, none⟩ = some (.int .i64 x.f4[i].f0) ∧ W.cell? ⟨g, i * 5 + 1, none⟩ = some (.string x.f4[i].f1) ∧ W.cell? ⟨g, i * 5 + 2, none⟩ = some (.int .i64 x.f4[i].f2) ∧ W.cell? ⟨g, i * 5 + 3, none⟩ = some (.int .i64 x.f4[i].f3) ∧ W.cell? ⟨g, i * 5 + 4, none⟩ = some (.slice A5 x.f4[i].f4.length c5)) := fun {W} hb => ⟨(hb.cell (World.block_lt_of_cell? w3 _ n4)).trans n4, (hb.cell (World.block_lt_of_cell? w3 _ hp0)).trans hp0, (hb.cell (World.block_lt_of_cell? w3 _ y0)).trans y0, (hb.cell (World.block_lt_of_cell? w3 _ y1)).trans y1, (hb.cell (World.block_lt_of_cell? w3 _ y2)).trans y2, (hb.cell (World.block_lt_of_cell? w3 _ y3)).trans y3, (hb.cell (World.block_lt_of_cell? w3 _ y4)).trans y4⟩
    refine start_ (n := 20) (S := fun w' => w'.cell? ⟨w.heap.size, 4, none⟩ = some (.slice (some ⟨g, 0, none⟩) x.f4.length c7) ∧ w'.cell? ad1 = some (.int .i64 (i : Int)) ∧ w'.cell? ⟨g, i * 5, none⟩ = some (.int .i64 x.f4[i].f0) ∧ w'.cell? ⟨g, i * 5 + 1, none⟩ = some (.string x.f4[i].f1) ∧ w'.cell? ⟨g, i * 5 + 2, none⟩ = some (.int .i64 x.f4[i].f2) ∧ w'.cell? ⟨g, i * 5 + 3, none⟩ = some (.int .i64 x.f4[i].f3) ∧ w'.cell? ⟨g, i * 5 + 4, none⟩ = some (.slice A5 x.f4[i].f4.length c5)) (ds := [19]) #[false, false, false, false, false, false, false, false, false, false, false, false, false, false, false, false, false, false, false, false] (by kernel_rfl) rfl rfl (hS (Below.refl _ _).drew) (fun hHeld => ?_)
    refine pure_ (i := 0) (N := some 32) (v := ?_) (a' := ?_) #[true, false, false, false, false, false, false, false, false, false, false, false, false, false, false, false, false, false, false, false] rfl rfl (by kernel_rfl) (fun _ _ _ h => h) (Or.inl ⟨by rfl, ?_⟩) ?_ ?_
    rotate_left
    · intro w'
      go_simp
      with_reducible rfl
    rotate_left
    · simp only [Act.put, List.setIfInBounds_toArray, List.set_cons_zero, List.set_cons_succ, i64_w, i32_w]
      rfl
    refine pure_ (i := 2) (N := some 34) (v := ?_) (a' := ?_) #[true, false, true, false, false, false, false, false, false, false, false, false, false, false, false, false, false, false, false, false] rfl rfl (by kernel_rfl) (fun _ _ _ h => h) (Or.inl ⟨by rfl, ?_⟩) ?_ ?_
    rotate_left
    · intro w'
      go_simp
      with_reducible rfl
    rotate_left
    · simp only [Act.put, List.setIfInBounds_toArray, List.set_cons_zero, List.set_cons_succ, i64_w, i32_w]
      rfl
    refine pure_ (i := 3) (N := some 35) (v := ?_) (a' := ?_) #[true, false, true, true, false, false, false, false, false, false, false, false, false, false, false, false, false, false, false, false] rfl rfl (by kernel_rfl) (fun _ _ _ h => h) (Or.inl ⟨by rfl, ?_⟩) ?_ ?_
    rotate_left
    · intro w'
      go_simp
      with_reducible rfl
    rotate_left
    · simp only [Act.put, List.setIfInBounds_toArray, List.set_cons_zero, List.set_cons_succ, i64_w, i32_w]
      rfl
    refine pure_ (i := 5) (N := some 37) (v := ?_) (a' := ?_) #[true, false, true, true, false, true, false, false, false, false, false, false, false, false, false, false, false, false, false, false] rfl rfl (by kernel_rfl) (fun _ _ _ h => h) (Or.inl ⟨by rfl, ?_⟩) ?_ ?_
    rotate_left
    · intro w'
      go_simp
      with_reducible rfl
    rotate_left
    · simp only [Act.put, List.setIfInBounds_toArray, List.set_cons_zero, List.set_cons_succ, i64_w, i32_w]
      rfl
    refine pure_ (i := 7) (N := some 39) (v := ?_) (a' := ?_) #[true, false, true, true, false, true, false, true, false, false, false, false, false, false, false, false, false, false, false, false] rfl rfl (by kernel_rfl) (fun _ _ _ h => h) (Or.inl ⟨by rfl, ?_⟩) ?_ ?_
    rotate_left
    · intro w'
      go_simp
      with_reducible rfl
    rotate_left
    · simp only [Act.put, List.setIfInBounds_toArray, List.set_cons_zero, List.set_cons_succ, i64_w, i32_w]
      rfl
    refine pure_ (i := 8) (N := some 40) (v := ?_) (a' := ?_) #[true, false, true, true, false, true, false, true, true, false, false, false, false, false, false, false, false, false, false, false] rfl rfl (by kernel_rfl) (fun _ _ _ h => h) (Or.inl ⟨by rfl, ?_⟩) ?_ ?_
    rotate_left
    · intro w'
      go_simp
      with_reducible rfl
    rotate_left
    · simp only [Act.put, List.setIfInBounds_toArray, List.set_cons_zero, List.set_cons_succ, i64_w, i32_w]
      rfl
    refine pure_ (i := 12) (N := some 44) (v := ?_) (a' := ?_) #[true, false, true, true, false, true, false, true, true, false, false, false, true, false, false, false, false, false, false, false] rfl rfl (by kernel_rfl) (fun _ _ _ h => h) (Or.inl ⟨by rfl, ?_⟩) ?_ ?_
    rotate_left
    · intro w'
      go_simp
      with_reducible rfl
    rotate_left
    · simp only [Act.put, List.setIfInBounds_toArray, List.set_cons_zero, List.set_cons_succ, i64_w, i32_w]
      rfl
    refine pure_ (i := 13) (N := some 45) (v := ?_) (a' := ?_) #[true, false, true, true, false, true, false, true, true, false, false, false, true, true, false, false, false, false, false, false] rfl rfl (by kernel_rfl) (fun _ _ _ h => h) (Or.inl ⟨by rfl, ?_⟩) ?_ ?_
    rotate_left
    · intro w'
      go_simp
      with_reducible rfl
    rotate_left
    · simp only [Act.put, List.setIfInBounds_toArray, List.set_cons_zero, List.set_cons_succ, i64_w, i32_w]
      rfl
    obtain ⟨D, hD⟩ : ∃ D, D = (if c1 = 1 then some ad1 else some ({ block := ad1.block, off := ad1.off + 1 } : Addr)) := ⟨_, rfl⟩
    rw [← hD]
    have HD := Aside0.mk hD
    clear hD
    refine pure_ (i := 14) (N := some 46) (v := ?_) (a' := ?_) #[true, false, true, true, false, true, false, true, true, false, false, false, true, true, true, false, false, false, false, false] rfl rfl (by kernel_rfl) (fun _ _ _ h => h) (Or.inl ⟨by rfl, ?_⟩) ?_ ?_
    rotate_left
    · intro w'
      go_simp
      with_reducible rfl
    rotate_left
    · simp only [Act.put, List.setIfInBounds_toArray, List.set_cons_zero, List.set_cons_succ, i64_w, i32_w]
      rfl
    refine pure_ (i := 15) (N := some 47) (v := ?_) (a' := ?_) #[true, false, true, true, false, true, false, true, true, false, false, false, true, true, true, true, false, false, false, false] rfl rfl (by kernel_rfl) (fun _ _ _ h => h) (Or.inl ⟨by rfl, ?_⟩) ?_ ?_
    rotate_left
    · intro w'
      go_simp
      with_reducible rfl
    rotate_left
    · simp only [Act.put, List.setIfInBounds_toArray, List.set_cons_zero, List.set_cons_succ, i64_w, i32_w]
      rfl
    refine pure_ (i := 16) (N := some 48) (v := ?_) (a' := ?_) #[true, false, true, true, false, true, false, true, true, false, false, false, true, true, true, true, true, false, false, false] rfl rfl (by kernel_rfl) (fun _ _ _ h => h) (Or.inl ⟨by rfl, ?_⟩) ?_ ?_
    rotate_left
    · intro w'
      go_simp
      with_reducible rfl
    rotate_left
    · simp only [Act.put, List.setIfInBounds_toArray, List.set_cons_zero, List.set_cons_succ, i64_w, i32_w]
      rfl
    refine take_ (i := 1) (N := some 33) (v := ?_) (a' := ?_) #[true, true, true, true, false, true, false, true, true, false, false, false, true, true, true, true, true, false, false, false] rfl rfl (by kernel_rfl) (fun _ _ _ h => h) (Or.inl ⟨by rfl, ?_⟩) hHeld ?_ ?_
    rotate_left
    · rintro w' ⟨s0, s1, s2, s3, s4, s5, s6⟩
      go_simp
      with_reducible rfl
    rotate_left
    · simp only [Act.put, List.setIfInBounds_toArray, List.set_cons_zero, List.set_cons_succ, i64_w, i32_w]
      rfl
    refine take_ (i := 4) (N := some 36) (v := ?_) (a' := ?_) #[true, true, true, true, true, true, false, true, true, false, false, false, true, true, true, true, true, false, false, false] rfl rfl (by kernel_rfl) (fun _ _ _ h => h) (Or.inl ⟨by rfl, ?_⟩) hHeld ?_ ?_
    rotate_left
    · rintro w' ⟨s0, s1, s2, s3, s4, s5, s6⟩
      go_simp
      with_reducible rfl
    rotate_left
    · simp only [Act.put, List.setIfInBounds_toArray, List.set_cons_zero, List.set_cons_succ, i64_w, i32_w]
      rfl
    refine take_ (i := 6) (N := some 38) (v := ?_) (a' := ?_) #[true, true, true, true, true, true, true, true, true, false, false, false, true, true, true, true, true, false, false, false] rfl rfl (by kernel_rfl) (fun _ _ _ h => h) (Or.inl ⟨by rfl, ?_⟩) hHeld ?_ ?_
    rotate_left
    · rintro w' ⟨s0, s1, s2, s3, s4, s5, s6⟩
      go_simp
      with_reducible rfl
    rotate_left
    · simp only [Act.put, List.setIfInBounds_toArray, List.set_cons_zero, List.set_cons_succ, i64_w, i32_w]
      rfl
    refine take_ (i := 9) (N := some 41) (v := ?_) (a' := ?_) #[true, true, true, true, true, true, true, true, true, true, false, false, true, true, true, true, true, false, false, false] rfl rfl (by kernel_rfl) (fun _ _ _ h => h) (Or.inl ⟨by rfl, ?_⟩) hHeld ?_ ?_
    rotate_left
    · rintro w' ⟨s0, s1, s2, s3, s4, s5, s6⟩
      go_simp
      with_reducible rfl
    rotate_left
    · simp only [Act.put, List.setIfInBounds_toArray, List.set_cons_zero, List.set_cons_succ, i64_w, i32_w]
      rfl
    refine pure_ (i := 10) (N := some 42) (v := ?_) (a' := ?_) #[true, true, true, true, true, true, true, true, true, true, true, false, true, true, true, true, true, false, false, false] rfl rfl (by kernel_rfl) (fun _ _ _ h => h) (Or.inl ⟨by rfl, ?_⟩) ?_ ?_
    rotate_left
    · intro w'
      go_simp
      with_reducible rfl
    rotate_left
    · simp only [Act.put, List.setIfInBounds_toArray, List.set_cons_zero, List.set_cons_succ, i64_w, i32_w]
      rfl
    refine take_ (i := 11) (N := some 43) (v := ?_) (a' := ?_) #[true, true, true, true, true, true, true, true, true, true, true, true, true, true, true, true, true, false, false, false] rfl rfl (by kernel_rfl) (fun _ _ _ h => h) (Or.inl ⟨by rfl, ?_⟩) hHeld ?_ ?_
    rotate_left
    · rintro w' ⟨s0, s1, s2, s3, s4, s5, s6⟩
      go_simp
      with_reducible rfl
    rotate_left
    · simp only [Act.put, List.setIfInBounds_toArray, List.set_cons_zero, List.set_cons_succ, i64_w, i32_w]
      rfl
    refine one_ (i := 17) (N := some 49) #[true, true, true, true, true, true, true, true, true, true, true, true, true, true, true, true, true, true, false, false] rfl rfl (by kernel_rfl) (by decide) (fun K hK => ?_)
    obtain ⟨w4, hw4⟩ : ∃ w4, w4 = w3.drew := ⟨_, rfl⟩
    have HB34 : Aside0 (Below w3.heap.size w3 w4) := ⟨by rw [hw4]; exact (Below.refl _ _).drew⟩
    rw [← hw4]
    clear hw4 hHeld
    have HS := Aside0.mk (fun {W : World} (hb : Below w3.heap.size w3 W) => hS hb)
    have BB4 : Aside0 (Below w.heap.size w w4) := ⟨BB3.out.trans (HB34.out.mono BB3.out.size)⟩
    have BN4 := Aside0.mk (blk_below BN3.out HB34.out)
    have BR4 := Aside0.mk (blk_below BR3.out HB34.out)
    have HCU4 := Aside0.mk (blk_below HCU3.out HB34.out)
    have HR4 := Aside0.mk (Kd.R_below HR3.out HB34.out)
    have hCq : Kd.C (Kd.int .i64) w4 D q.length q := by
      have h1 := Kd.C_drop (m := 1) (c := c1) (Kd.C_below HC1.out BB4.out) (by simp) HLC1.out
      have h2 : D = (if c1 = 1 then some ad1 else (some ad1).map (·.add (1 * (Kd.int .i64).sz))) := HD.out
      rw [← h2] at h1
      exact h1
    have hgw : g < w4.heap.size := blk_lt HCU4.out
    have HCE4 : Aside0 (∀ j u, [Value.int .i64 x.f4[i].f0, .string x.f4[i].f1, .int .i64 x.f4[i].f2, .int .i64 x.f4[i].f3, .slice A5 x.f4[i].f4.length c5][j]? = some u → w4.cell? ⟨g, i * 5 + j, none⟩ = some u) := ⟨fun j u hu => (HB34.out.cell (World.block_lt_of_cell? w3 _ (HCE.out j u hu))).trans (HCE.out j u hu)⟩
    refine call_ 53 #[val24 x.f4[i] A5 c5, .slice D q.length (c1 - 1), .int .i64 f, .int .i64 t, .slice A4 l.length c4] (by rfl) rfl (by go_simp; simp [val24]) ?_
    refine (HIH.out A5 c5 D (c1 - 1) A4 c4 w4 (Kd.C_below HC5.out HB34.out) HL5.out hCq (by have := HLC1.out; simp at this; omega) (Kd.C_below HC4.out BB4.out) HLC4.out (by have := HP.out; simp at this; omega)).mono ?_
    rintro e w5 ⟨V9, rfl, hR9, hb⟩
    obtain ⟨X9, hX9⟩ : ∃ X9, X9 = (rep24 q f t l x.f4[i]).f4 := ⟨_, rfl⟩
    rw [← hX9] at hR9
    obtain ⟨A9, c9, hV9⟩ := R_form hR9
    obtain ⟨N9, hN9⟩ : ∃ N9, N9 = X9.length := ⟨_, rfl⟩
    rw [← hN9] at hV9
    subst hV9
    have HX9 := Aside0.mk hX9
    clear hX9 hN9
    refine ⟨_, rfl, ?_⟩
    have BN5 := Aside0.mk (blk_below BN4.out hb)
    have BR5 := Aside0.mk (blk_below BR4.out hb)
    have HCU5 := Aside0.mk (blk_below HCU4.out hb)
    have HR5 := Aside0.mk (Kd.R_below HR4.out hb)
    have BB5 : Aside0 (Below w.heap.size w w5) := ⟨BB4.out.trans (hb.mono BB4.out.size)⟩
    have HCE5 : Aside0 (∀ j u, [Value.int .i64 x.f4[i].f0, .string x.f4[i].f1, .int .i64 x.f4[i].f2, .int .i64 x.f4[i].f3, .slice A5 x.f4[i].f4.length c5][j]? = some u → w5.cell? ⟨g, i * 5 + j, none⟩ = some u) := ⟨fun j u hu => (hb.cell (World.block_lt_of_cell? w4 _ (HCE4.out j u hu))).trans (HCE4.out j u hu)⟩
    have HR9 : Aside0 (Kd.R k24 24 w5 w.heap.size (fun k => w.heap.size + 1 < k ∧ k ≠ g) (.slice A9 N9 c9) X9) := ⟨Kd.R_lower (Kd.R_mono (Kd.R_bound hR9) (fun k hk => by have := hk.2.1; have := HG.out; omega)) BB4.out.size⟩
    refine hK.out _ _ (HS.out (HB34.out.trans (hb.mono HB34.out.size))) (fun hHeld => ?_)
    clear hK K hR9 hb hCq BN4 BR4 HCU4 HR4 BB4 HCE4 hgw BN3 BR3 HCU3 HR3 BB3 HCE
    refine norm_ (a' := ?_) ?_ ?_
    rotate_left
    · show Act.put _ (some 49) _ = _
      simp only [Act.put, List.setIfInBounds_toArray, List.set_cons_zero, List.set_cons_succ, i64_w, i32_w]
      rfl
    refine pure_ (i := 18) (N := some 50) (v := ?_) (a' := ?_) #[true, true, true, true, true, true, true, true, true, true, true, true, true, true, true, true, true, true, true, false] rfl rfl (by kernel_rfl) (fun _ _ _ h => h) (Or.inl ⟨by rfl, ?_⟩) ?_ ?_
    rotate_left
    · intro w'
      go_simp
      with_reducible rfl
    rotate_left
    · simp only [Act.put, List.setIfInBounds_toArray, List.set_cons_zero, List.set_cons_succ, i64_w, i32_w]
      rfl
    refine last_ (i := 19) (N := none) #[true, true, true, true, true, true, true, true, true, true, true, true, true, true, true, true, true, true, true, true] rfl rfl (by kernel_rfl) (by decide) (fun K hK => ?_)
    clear n4 hp0 y0 y1 y2 y3 y4 hHeld
    have y0 := HCE5.out 0 _ rfl
    have z0 := blk_frozen HCU5.out (i * 5 + 0)
    have y1 := HCE5.out 1 _ rfl
    have z1 := blk_frozen HCU5.out (i * 5 + 1)
    have y2 := HCE5.out 2 _ rfl
    have z2 := blk_frozen HCU5.out (i * 5 + 2)
    have y3 := HCE5.out 3 _ rfl
    have z3 := blk_frozen HCU5.out (i * 5 + 3)
    have y4 := HCE5.out 4 _ rfl
    have z4 := blk_frozen HCU5.out (i * 5 + 4)
    simp only [Nat.add_zero] at y0 z0
    refine skip_ (w1 := ?_) (by rfl) rfl ?_ ?_
    rotate_left
    · go_simp
      rfl
    refine hK.out _ _ ?_
    clear hK K
    refine done_ (by kernel_rfl) ?_
    obtain ⟨w6, hw6⟩ : ∃ w6, w6 = ((((w5.setCell ⟨g, i * 5, none⟩ (.int .i64 x.f4[i].f0)).setCell ⟨g, i * 5 + 1, none⟩ (.string x.f4[i].f1)).setCell ⟨g, i * 5 + 2, none⟩ (.int .i64 x.f4[i].f2)).setCell ⟨g, i * 5 + 3, none⟩ (.int .i64 x.f4[i].f3)).setCell ⟨g, i * 5 + 4, none⟩ (.slice A9 N9 c9) := ⟨_, rfl⟩
    have hseg := Kd.R_seg HR5.out (i : Int) hi0 hi1 (c := [Value.int .i64 x.f4[i].f0, .string x.f4[i].f1, .int .i64 x.f4[i].f2, .int .i64 x.f4[i].f3, .slice A5 x.f4[i].f4.length c5]) (seg := [Value.int .i64 x.f4[i].f0, .string x.f4[i].f1, .int .i64 x.f4[i].f2, .int .i64 x.f4[i].f3, .slice A9 N9 c9]) (j := 0) (x' := ⟨x.f4[i].f0, x.f4[i].f1, x.f4[i].f2, x.f4[i].f3, X9⟩) (okp := fun k => w.heap.size + 1 < k ∧ k ≠ g) rfl
      (fun j u hu => by rw [Int.toNat_natCast]; exact HCE5.out j u hu) (show 0 + 5 ≤ 5 by decide)
      (k24_mkM w5 w.heap.size (fun k => w.heap.size + 1 < k ∧ k ≠ g) ⟨x.f4[i].f0, x.f4[i].f1, x.f4[i].f2, x.f4[i].f3, X9⟩ HR9.out) (fun k hk => hk)
    have hset : w5.setCells g ((i : Int).toNat * k24.sz + 0) [Value.int .i64 x.f4[i].f0, .string x.f4[i].f1, .int .i64 x.f4[i].f2, .int .i64 x.f4[i].f3, .slice A9 N9 c9] = w6 := by
      rw [hw6]; rfl
    rw [hset] at hseg
    have hx9 : (⟨x.f4[i].f0, x.f4[i].f1, x.f4[i].f2, x.f4[i].f3, X9⟩ : S24) = rep24 q f t l x.f4[i] := by rw [HX9.out]; exact (rep_eq q f t l x.f4[i]).symm
    rw [hx9, Int.toNat_natCast] at hseg
    have BN6 : Aside0 (w6.heap[w.heap.size]? = some (.cells #[.int .i64 x.f0, .string x.f1, .int .i64 x.f2, .int .i64 x.f3, .slice (some ⟨g, 0, none⟩) x.f4.length c7] 24 (0, 0))) := ⟨blk_grown BN5.out hseg.2 (by have := HG.out; intro e; injection e with e; omega)⟩
    have BR6 : Aside0 (w6.heap[w.heap.size + 1]? = some (.cells #[.int .i64 0, .string ⟨#[]⟩, .int .i64 0, .int .i64 0, .slice none 0 0] 24 (0, 0))) := ⟨blk_grown BR5.out hseg.2 (by have := HG.out; intro e; injection e with e; omega)⟩
    have BB6 : Aside0 (Below w.heap.size w w6) := ⟨by
      rw [hw6]
      iterate 5 refine below_set ?_ (by have := HG.out; omega)
      exact BB5.out⟩
    have HR6 : Aside0 (Kd.R k24 24 w6 w.heap.size (fun k => w.heap.size + 1 < k) (.slice (some ⟨g, 0, none⟩) x.f4.length c7) (x.f4.set i (rep24 q f t l x.f4[i]))) := ⟨hseg.1⟩
    rw [← hw6]
    clear hw6 hset hseg hx9 y0 y1 y2 y3 y4 z0 z1 z2 z3 z4
    have n0 : w6.cell? ⟨w.heap.size, 0, none⟩ = some (.int .i64 x.f0) := (blk_cell BN6.out 0).trans rfl
    have r0 : w6.cell? ⟨w.heap.size + 1, 0, none⟩ = some (.int .i64 0) := (blk_cell BR6.out 0).trans rfl
    have q0 := blk_frozen BR6.out 0
    have n1 : w6.cell? ⟨w.heap.size, 1, none⟩ = some (.string x.f1) := (blk_cell BN6.out 1).trans rfl
    have r1 : w6.cell? ⟨w.heap.size + 1, 1, none⟩ = some (.string ⟨#[]⟩) := (blk_cell BR6.out 1).trans rfl
    have q1 := blk_frozen BR6.out 1
    have n2 : w6.cell? ⟨w.heap.size, 2, none⟩ = some (.int .i64 x.f2) := (blk_cell BN6.out 2).trans rfl
    have r2 : w6.cell? ⟨w.heap.size + 1, 2, none⟩ = some (.int .i64 0) := (blk_cell BR6.out 2).trans rfl
    have q2 := blk_frozen BR6.out 2
    have n3 : w6.cell? ⟨w.heap.size, 3, none⟩ = some (.int .i64 x.f3) := (blk_cell BN6.out 3).trans rfl
    have r3 : w6.cell? ⟨w.heap.size + 1, 3, none⟩ = some (.int .i64 0) := (blk_cell BR6.out 3).trans rfl
    have q3 := blk_frozen BR6.out 3
    have n4 : w6.cell? ⟨w.heap.size, 4, none⟩ = some (.slice (some ⟨g, 0, none⟩) x.f4.length c7) := (blk_cell BN6.out 4).trans rfl
    have r4 : w6.cell? ⟨w.heap.size + 1, 4, none⟩ = some (.slice none 0 0) := (blk_cell BR6.out 4).trans rfl
    have q4 := blk_frozen BR6.out 4
    go_wp2_with fail
    refine bodyPost_ret (results_cell_row rfl _ _ (w.heap.size + 1) 24 #[.int .i64 x.f0, .string x.f1, .int .i64 x.f2, .int .i64 x.f3, .slice (some ⟨g, 0, none⟩) x.f4.length c7] (0, 0) _ rfl ?_ hu24 rfl (by kernel_rfl)) rfl ?_
    · refine blk_put (cs := #[.int .i64 x.f0, .string x.f1, .int .i64 x.f2, .int .i64 x.f3, .slice none 0 0]) ?_ 4 _ rfl
      refine blk_put (cs := #[.int .i64 x.f0, .string x.f1, .int .i64 x.f2, .int .i64 0, .slice none 0 0]) ?_ 3 _ rfl
      refine blk_put (cs := #[.int .i64 x.f0, .string x.f1, .int .i64 0, .int .i64 0, .slice none 0 0]) ?_ 2 _ rfl
      refine blk_put (cs := #[.int .i64 x.f0, .string ⟨#[]⟩, .int .i64 0, .int .i64 0, .slice none 0 0]) ?_ 1 _ rfl
      refine blk_put (cs := #[.int .i64 0, .string ⟨#[]⟩, .int .i64 0, .int .i64 0, .slice none 0 0]) ?_ 0 _ rfl
      exact BR6.out
    refine ⟨_, rfl, ?_, ?_⟩
    · refine Kd.R_mono (ok := fun k => w.heap.size + 1 < k) ?_ (fun _ _ => trivial)
      iterate 5 refine Kd.R_far ?_ (fun k hk => by show k ≠ w.heap.size + 1; omega) _
      exact HR6.out
    · iterate 5 refine below_set ?_ (Nat.le_succ _)
      exact BB6.out

def tree_replace.f (a0_0 : Int) (a0_1 : ByteArray) (a0_2 : Int) (a0_3 : Int) (l0_4 : List S24) (l1 : List Int) (a2 : Int) (a3 : Int) (l4 : List S24) : Option (Int × ByteArray × Int × Int × (List (S24))) :=
  if okRep l1 a2 a3 ⟨a0_0, a0_1, a0_2, a0_3, l0_4⟩ = true ∧ (pre24 ⟨a0_0, a0_1, a0_2, a0_3, l0_4⟩).length + (preL24 l4).length < 1099511627775 ∧ l1.length < 1099511627776 then some (a0_0, a0_1, a0_2, a0_3, (rep24 l1 a2 a3 l4 ⟨a0_0, a0_1, a0_2, a0_3, l0_4⟩).f4) else none
theorem tree_replace.calls (a0_0 : Int) (a0_1 : ByteArray) (a0_2 : Int) (a0_3 : Int) (A0_4 : Option Addr) (c0_4 : Nat) (l0_4 : List (S24)) (A1 : Option Addr) (c1 : Nat) (l1 : List Int) (a2 : Int) (a3 : Int) (A4 : Option Addr) (c4 : Nat) (l4 : List (S24)) (r1 : Int) (r2 : ByteArray) (r3 : Int) (r4 : Int) (r5 : List (S24)) (w : World) (hr0_4 : Kd.C k24 w A0_4 l0_4.length l0_4) (hc0_4 : l0_4.length ≤ c0_4) (hr1 : Kd.C (Kd.int .i64) w A1 l1.length l1) (hc1 : l1.length ≤ c1) (hr4 : Kd.C k24 w A4 l4.length l4) (hc4 : l4.length ≤ c4) (h : tree_replace.f a0_0 a0_1 a0_2 a0_3 l0_4 l1 a2 a3 l4 = some (r1, r2, r3, r4, r5)) :
    Calls Try.prog 53 #[.agg #[.int .i64 a0_0, .string a0_1, .int .i64 a0_2, .int .i64 a0_3, .slice A0_4 l0_4.length c0_4], .slice A1 l1.length c1, .int .i64 a2, .int .i64 a3, .slice A4 l4.length c4] w fun e w' => ∃ v4_ : Value, e = .returned (.agg #[.int .i64 r1, .string r2, .int .i64 r3, .int .i64 r4, v4_]) ∧ Kd.R k24 24 w' w.heap.size (fun _ => True) v4_ r5 ∧ Below w.heap.size w w' := by
  unfold tree_replace.f at h
  split at h
  case isFalse => simp at h
  rename_i hn
  have h' := Option.some.inj h
  simp only [Prod.mk.injEq] at h'
  obtain ⟨rfl, rfl, rfl, rfl, rfl⟩ := h'
  exact replace_calls l4 a2 a3 l1 ⟨a0_0, a0_1, a0_2, a0_3, l0_4⟩ hn.1 hn.2.1 A0_4 c0_4 A1 c1 A4 c4 w hr0_4 hc0_4 hr1 hc1 hr4 hc4 hn.2.2
end Go.Proofs.Ytbheobngeocdfaa.PAll
