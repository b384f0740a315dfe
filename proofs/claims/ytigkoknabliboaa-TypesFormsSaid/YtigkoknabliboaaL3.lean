/- The law TypesForms, in plain Lean: the program's Valid, Format, Size and Scalars answer as the reference's do. -/
import Derived.Test.YtigkoknabliboaaPAllxf3
import Derived.Test.YtigkoknabliboaaL1
import Derived.Lib.Strings
namespace Go.Proofs.Ytigkoknabliboaa.PAll
open Go.RowKit Go.Proofs.YtigkoknabliboaaW.PrintWords Go.Proofs.YtigkoknabliboaaW.PrintLast Go.Proofs.YtigkoknabliboaaW.PrintMore
set_option linter.unusedVariables false
set_option linter.unusedSimpArgs false
theorem bytes_nil {s : ByteArray} (h : s.toList = []) : s = ⟨#[]⟩ := by
  rw [Lib.toList_data] at h
  exact Go.WideShapes.bytes_inj h
theorem index_loop (l : List S63) (s : ByteArray) (hb : l.length ≤ 9223372036854775807) (d : Nat) : ∀ (k j : Nat), j ≤ l.length → l.length - j = d → d < k → (∀ i (h : i < l.length), i < j → (l[i].f0.toList == s.toList) = false) → assessorref08_index.l0 k l s (j : Int) = some (recIdx l s) := by
  induction d with
  | zero =>
    intro k j hj hd hk hp
    obtain ⟨k, rfl⟩ : ∃ q, k = q + 1 := ⟨k - 1, by omega⟩
    simp only [assessorref08_index.l0]
    rw [if_neg (by omega)]
    congr 1
    unfold recIdx
    rw [idx_miss _ _ (fun i hi => hp i hi (by omega))]
  | succ d ih =>
    intro k j hj hd hk hp
    obtain ⟨k, rfl⟩ : ∃ q, k = q + 1 := ⟨k - 1, by omega⟩
    have hlt : j < l.length := by omega
    simp only [assessorref08_index.l0]
    rw [if_pos (by omega), if_pos (by omega)]
    have e1 : rd_T63 l (j : Int) = l[j] := by simp [rd_T63, List.getD_eq_getElem?_getD, hlt]
    have hw : wrap64 ((j : Int) + 1) = ((j + 1 : Nat) : Int) := by unfold wrap64; omega
    rw [e1, hw]
    by_cases h : l[j].f0.toList = s.toList
    · rw [if_pos h]
      congr 1
      unfold recIdx
      rw [idx_hit _ l j hlt (by simpa using h) (fun i hi h2 => hp i h2 hi)]
    · rw [if_neg h]
      refine ih k (j + 1) (by omega) (by omega) (by omega) (fun i hi hij => ?_)
      rcases Nat.lt_or_ge i j with h1 | h1
      · exact hp i hi h1
      · obtain rfl : i = j := by omega
        simpa using h
theorem index_f (k : Nat) (l : List S63) (s : ByteArray) (hb : l.length ≤ 9223372036854775807) (hk : l.length < k) : assessorref08_index.f k l s = some (recIdx l s) := by
  unfold assessorref08_index.f
  exact index_loop l s hb l.length k 0 (by omega) (by omega) hk (fun i _ h => absurd h (by omega))
theorem validR_f (k : Nat) (l : List S63) (t : S27) (hb : l.length ≤ 9223372036854775807) (hk : l.length + 1 < k) : assessorref08_Valid.f k t.f0 t.f1 t.f2 l = some (validS l t) := by
  obtain ⟨k, rfl⟩ : ∃ q, k = q + 1 := ⟨k - 1, by omega⟩
  unfold assessorref08_Valid.f validS validT
  simp only [assessorref08_Valid.j0]
  rw [index_f k l t.f2 hb (by omega)]
  by_cases h1 : t.f0 = 1
  · simp [h1]
    by_cases h : t.f1 = 0 <;> simp [h]
  · rw [if_neg h1]
    by_cases h2 : t.f0 = 2
    · simp [h2]
      by_cases h : t.f1 = 0 <;> simp [h]
    · by_cases h3 : t.f0 = 3
      · simp [h3]
        by_cases h : 1 ≤ t.f1 <;> by_cases h' : t.f1 ≤ 8 <;> simp [h, h']
      · by_cases h4 : t.f0 = 4
        · simp [h4]
          by_cases h : t.f1 = 0 <;> simp [h]
        · simp [h1, h2, h3, h4]
theorem dec_len (m : Nat) : ∀ n, n < 10 ^ (m + 1) → (dec n).size ≤ m + 1 := by
  induction m with
  | zero =>
    intro n h
    rw [dec, if_pos (by omega)]
    show 1 ≤ 1
    omega
  | succ m ih =>
    intro n h
    rw [dec]
    split
    · show 1 ≤ m + 1 + 1
      omega
    · rw [ByteArray.size_append]
      have := ih (n / 10) (by rw [Nat.pow_succ] at h; omega)
      show _ + 1 ≤ m + 1 + 1
      omega
theorem decimal_step (k : Nat) (a : Int) (h0 : 0 ≤ a) (h1 : a ≤ 9223372036854775807) (ih : 10 ≤ a → assessorref08_decimal.f k ((a.toNat / 10 : Nat) : Int) = some (dec (a.toNat / 10))) : assessorref08_decimal.f (k + 1) a = some (dec a.toNat) := by
  simp only [assessorref08_decimal.f, Option.bind_some]
  have e1 : Int.tmod a 10 = ((a.toNat % 10 : Nat) : Int) := by
    rw [Int.tmod_eq_emod_of_nonneg h0]; omega
  have e2 : Int.tdiv a 10 = ((a.toNat / 10 : Nat) : Int) := by
    rw [Int.tdiv_eq_ediv_of_nonneg h0]; omega
  have e3 : wrap64 (48 + ((a.toNat % 10 : Nat) : Int)) % 256 = ((48 + a.toNat % 10 : Nat) : Int) := by unfold wrap64; omega
  have e4 : wrap64 ((a.toNat / 10 : Nat) : Int) = ((a.toNat / 10 : Nat) : Int) := by unfold wrap64; omega
  have e5 : strOfNums [((48 + a.toNat % 10 : Nat) : Int)] = ⟨#[UInt8.ofNat (48 + a.toNat % 10)]⟩ := by
    unfold strOfNums
    rw [List.map_cons, List.map_nil, Int.toNat_natCast]
  rw [e1, e2, e3, e4, e5]
  have hd : dec a.toNat = if a.toNat < 10 then ⟨#[UInt8.ofNat (48 + a.toNat)]⟩ else dec (a.toNat / 10) ++ ⟨#[UInt8.ofNat (48 + a.toNat % 10)]⟩ := by rw [dec]
  rw [hd]
  by_cases h : a ≥ 10
  · rw [if_pos h, ih h, Option.bind_some]
    have h3 := dec_size (a.toNat / 10 + 1) (a.toNat / 10) (by omega)
    rw [if_pos (by show _ + 1 ≤ _; omega), if_neg (by omega)]
  · rw [if_neg h, if_pos (by omega)]
    have : a.toNat % 10 = a.toNat := by omega
    rw [this]
theorem decimal_f (m : Nat) : ∀ (k : Nat) (a : Int), 0 ≤ a → a ≤ 9223372036854775807 → a.toNat < 10 ^ m → m < k → assessorref08_decimal.f k a = some (dec a.toNat) := by
  induction m with
  | zero =>
    intro k a h0 h1 h2 hk
    obtain ⟨k, rfl⟩ : ∃ q, k = q + 1 := ⟨k - 1, by omega⟩
    rw [Nat.pow_zero] at h2
    exact decimal_step k a h0 h1 (fun h => absurd h (by omega))
  | succ m ih =>
    intro k a h0 h1 h2 hk
    obtain ⟨k, rfl⟩ : ∃ q, k = q + 1 := ⟨k - 1, by omega⟩
    rw [Nat.pow_succ] at h2
    refine decimal_step k a h0 h1 (fun h => ?_)
    rw [ih k _ (by omega) (by omega) (by rw [Int.toNat_natCast]; omega) (by omega), Int.toNat_natCast]
theorem digits_same (k : Nat) (a : Int) (h0 : 0 ≤ a) (h1 : a ≤ 9223372036854775807) (hk : 20 < k) : assessorref08_decimal.f k a = types_digits.f a := by
  rw [decimal_f 19 k a h0 h1 (by omega) (by omega), types_digits.f, if_pos ⟨h0, h1⟩]
theorem format_f' (k : Nat) (t : S27) (h1 : t.f1 ≤ 9223372036854775807) (hk : 20 < k) : ∃ s, types_Format.f t.f0 t.f1 t.f2 = some s ∧ assessorref08_Format.f k t.f0 t.f1 t.f2 = some s := by
  unfold types_Format.f assessorref08_Format.f
  by_cases c1 : t.f0 = 1
  · rw [if_pos c1, if_pos c1]; exact ⟨_, rfl, rfl⟩
  rw [if_neg c1, if_neg c1]
  by_cases c2 : t.f0 = 2
  · rw [if_pos c2, if_pos c2]; exact ⟨_, rfl, rfl⟩
  rw [if_neg c2, if_neg c2]
  by_cases c3 : t.f0 = 3
  · rw [if_pos c3, if_pos c3]
    by_cases c : t.f1 ≥ 0
    · rw [if_pos c, if_neg (by omega), digits_same k t.f1 c h1 hk, types_digits.f, if_pos ⟨c, h1⟩]
      have hs := dec_len 18 t.f1.toNat (by omega)
      simp only [Option.bind_some]
      rw [if_pos (by omega), if_pos (by rw [ByteArray.size_append]; show 4 + _ + 1 ≤ _; omega)]
      exact ⟨_, rfl, rfl⟩
    · rw [if_neg c, if_pos (by omega)]; exact ⟨_, rfl, rfl⟩
  rw [if_neg c3, if_neg c3]
  by_cases c4 : t.f0 = 4
  · rw [if_pos c4]; exact ⟨_, rfl, rfl⟩
  rw [if_neg c4]
  by_cases c5 : t.f0 = 5
  · rw [if_pos c5]; exact ⟨_, rfl, rfl⟩
  rw [if_neg c5]
  by_cases c6 : t.f0 = 6
  · rw [if_pos c6]; exact ⟨_, rfl, rfl⟩
  rw [if_neg c6]
  exact ⟨_, rfl, rfl⟩
theorem wrap_nat (j : Nat) (h : j < 9223372036854775807) : wrap64 ((j : Int) + 1) = ((j + 1 : Nat) : Int) := by unfold wrap64; omega
theorem sca1 (l : List S63) (ts : List S27) (j : Nat) (hj : j < ts.length) (d : Nat) : ∀ (k : Nat) (acc : List S27) (x : Nat), (ts[j].f1 = ((x + d : Nat) : Int)) → x + d ≤ 1000 → acc.length + d < 4398046511104 →
    assessorref08_Scalars.l1 (k + d + 1) l ts acc (j : Int) (x : Int) = assessorref08_Scalars.l0 k l ts (acc ++ List.replicate d ⟨1, 0, ⟨#[]⟩⟩) (wrap64 ((j : Int) + 1)) := by
  have e1 : rd_T27 ts (j : Int) = ts[j] := by simp [rd_T27, List.getD_eq_getElem?_getD, hj]
  induction d with
  | zero =>
    intro k acc x hx hb ha
    rw [Nat.add_zero]
    conv => lhs; unfold assessorref08_Scalars.l1
    rw [if_pos (by omega), if_pos (by omega), e1, if_neg (by omega), List.replicate_zero, List.append_nil]
  | succ d ih =>
    intro k acc x hx hb ha
    rw [show k + (d + 1) + 1 = (k + d + 1) + 1 by omega]
    conv => lhs; unfold assessorref08_Scalars.l1
    rw [if_pos (by omega), if_pos (by omega), e1, if_pos (by omega), if_pos (by omega), wrap_nat x (by omega), ih k _ (x + 1) (by rw [hx]; omega) (by omega) (by rw [List.length_append]; simp; omega), List.append_assoc]
    rfl
theorem sca2 (l : List S63) (ts : List S27) (j : Int) (fs : List S76) (hf : fs.length ≤ 1000) (d : Nat) : ∀ (k : Nat) (acc : List S27) (x : Nat), fs.length = x + d → acc.length + d < 4398046511104 →
    assessorref08_Scalars.l2 (k + d + 1) l ts acc j fs (x : Int) = assessorref08_Scalars.l0 k l ts (acc ++ (fs.drop x).map scal) (wrap64 (j + 1)) := by
  induction d with
  | zero =>
    intro k acc x hx ha
    rw [Nat.add_zero]
    conv => lhs; unfold assessorref08_Scalars.l2
    rw [if_neg (by omega), List.drop_eq_nil_of_le (by omega), List.map_nil, List.append_nil]
  | succ d ih =>
    intro k acc x hx ha
    have hlt : x < fs.length := by omega
    have e1 : rd_T76 fs (x : Int) = fs[x] := by simp [rd_T76, List.getD_eq_getElem?_getD, hlt]
    rw [show k + (d + 1) + 1 = (k + d + 1) + 1 by omega]
    conv => lhs; unfold assessorref08_Scalars.l2
    rw [if_pos (by omega), if_pos (by omega), e1, List.drop_eq_getElem_cons hlt, List.map_cons]
    by_cases h2 : fs[x].f1.f0 = 2
    · rw [if_pos h2, if_pos (by omega), wrap_nat x (by omega), ih k _ (x + 1) (by omega) (by rw [List.length_append]; simp; omega), List.append_assoc]
      have : scal fs[x] = ⟨2, 0, ⟨#[]⟩⟩ := by unfold scal; rw [if_pos h2]
      rw [this]
      rfl
    · rw [if_neg h2, if_pos (by omega), wrap_nat x (by omega), ih k _ (x + 1) (by omega) (by rw [List.length_append]; simp; omega), List.append_assoc]
      have : scal fs[x] = ⟨1, 0, ⟨#[]⟩⟩ := by unfold scal; rw [if_neg h2]
      rw [this]
      rfl
theorem sc1_len {l : List S63} (hf : few l = true) (t : S27) (hv : validS l t = true) : (sc1 l t).length ≤ 20 := by
  have := scalars_one_len t hf
  unfold scalars at this
  simpa [hv] using this
theorem scalars0 (l : List S63) (hf : few l = true) (ts : List S27) (hts : ts.length ≤ 20) (d : Nat) : ∀ (k j : Nat) (acc : List S27), j ≤ ts.length → ts.length - j = d → 50 * d + 30 ≤ k → acc.length + 20 * d < 4398046511104 →
    assessorref08_Scalars.l0 k l ts acc (j : Int) = some (if (ts.drop j).all (validS l) then acc ++ (ts.drop j).flatMap (sc1 l) else []) := by
  have hfl := few_len hf
  induction d with
  | zero =>
    intro k j acc hj hd hk ha
    obtain ⟨k, rfl⟩ : ∃ q, k = q + 1 := ⟨k - 1, by omega⟩
    unfold assessorref08_Scalars.l0
    rw [if_neg (by omega), List.drop_eq_nil_of_le (by omega)]
    simp
  | succ d ih =>
    intro k j acc hj hd hk ha
    obtain ⟨k, rfl⟩ : ∃ q, k = q + 1 := ⟨k - 1, by omega⟩
    have hlt : j < ts.length := by omega
    have e1 : rd_T27 ts (j : Int) = ts[j] := by simp [rd_T27, List.getD_eq_getElem?_getD, hlt]
    unfold assessorref08_Scalars.l0
    rw [if_pos (by omega), if_pos (by omega), e1, validR_f k l ts[j] (by omega) (by omega), Option.bind_some, List.drop_eq_getElem_cons hlt, List.all_cons, List.flatMap_cons]
    by_cases hv : validS l ts[j] = true
    · rw [if_pos hv, hv, Bool.true_and]
      have hlen := sc1_len hf ts[j] hv
      by_cases h3 : ts[j].f0 = 3
      · rw [if_pos h3]
        have hs : sc1 l ts[j] = List.replicate ts[j].f1.toNat ⟨1, 0, ⟨#[]⟩⟩ := by unfold sc1; rw [if_neg (by omega), if_pos h3]
        have hn : 1 ≤ ts[j].f1 ∧ ts[j].f1 ≤ 8 := by
          have := hv
          unfold validS validT at this
          rw [if_neg (by omega), if_pos h3] at this
          simp at this
          omega
        have e := sca1 l ts j hlt ts[j].f1.toNat (k - ts[j].f1.toNat - 1) acc 0 (by omega) (by omega) (by omega)
        rw [show k - ts[j].f1.toNat - 1 + ts[j].f1.toNat + 1 = k by omega] at e
        rw [show ((0 : Nat) : Int) = 0 by rfl] at e
        rw [e, wrap_nat j (by omega), ih _ (j + 1) _ (by omega) (by omega) (by omega) (by rw [List.length_append, List.length_replicate]; omega), hs, List.append_assoc]
      · rw [if_neg h3]
        by_cases h4 : ts[j].f0 = 4
        · rw [if_pos h4, index_f k l _ (by omega) (by omega), Option.bind_some]
          have hi := valid4 (l := l) (k := ts[j].f0) (n := ts[j].f1) (s := ts[j].f2) hv h4
          obtain ⟨m, hm, him, _, _⟩ := idx_some _ _ hi
          have hi' : recIdx l ts[j].f2 = (m : Int) := him
          rw [hi', if_pos (by omega), if_pos (by omega)]
          have e2 : rd_T63 l (m : Int) = l[m] := by simp [rd_T63, List.getD_eq_getElem?_getD, hm]
          have e3 : fieldsOf l ts[j].f2 = l[m].f1 := by unfold fieldsOf; rw [hi']; simp [List.getD_eq_getElem?_getD, hm]
          have hs : sc1 l ts[j] = l[m].f1.map scal := by unfold sc1; rw [if_neg (by omega), if_neg h3, e3]
          have hq := few_fields hf ts[j].f2
          rw [e3] at hq
          have e := sca2 l ts (j : Int) l[m].f1 (by omega) l[m].f1.length (k - l[m].f1.length - 1) acc 0 (by omega) (by omega)
          rw [show k - l[m].f1.length - 1 + l[m].f1.length + 1 = k by omega] at e
          rw [show ((0 : Nat) : Int) = 0 by rfl] at e
          rw [e2, e, wrap_nat j (by omega), List.drop_zero, ih _ (j + 1) _ (by omega) (by omega) (by omega) (by rw [List.length_append, List.length_map]; omega), hs, List.append_assoc]
        · rw [if_neg h4, if_pos (by omega)]
          have h12 : ts[j].f0 = 1 ∨ ts[j].f0 = 2 := by
            have := hv
            unfold validS validT at this
            by_cases c : ts[j].f0 = 1 ∨ ts[j].f0 = 2
            · exact c
            · rw [if_neg c, if_neg h3, if_neg h4] at this; exact absurd this (by simp)
          have hz : ts[j].f1 = 0 ∧ ts[j].f2.toList = [] := by
            have := hv
            unfold validS validT at this
            rw [if_pos h12] at this
            simpa using this
          have hs : sc1 l ts[j] = [⟨ts[j].f0, ts[j].f1, ts[j].f2⟩] := by unfold sc1; rw [if_pos h12, hz.1, bytes_nil hz.2]
          rw [wrap_nat j (by omega), ih _ (j + 1) _ (by omega) (by omega) (by omega) (by rw [List.length_append]; simp; omega), hs, List.append_assoc]
    · have hv' : validS l ts[j] = false := by simpa using hv
      rw [if_neg hv, hv', Bool.false_and]
      simp
theorem scalarsR_f (k : Nat) (l : List S63) (hf : few l = true) (ts : List S27) (hts : ts.length ≤ 20) (hk : 1030 ≤ k) : assessorref08_Scalars.f k l ts = some (scalars l ts) := by
  unfold assessorref08_Scalars.f scalars
  have := scalars0 l hf ts hts ts.length k 0 [] (by omega) (by omega) (by omega) (by simp; omega)
  simpa using this
theorem scalars_len (l : List S63) (hf : few l = true) (ts : List S27) (hts : ts.length ≤ 20) : (scalars l ts).length ≤ 20 * ts.length := by
  unfold scalars
  split
  · rename_i h
    rw [List.all_eq_true] at h
    clear hts
    induction ts with
    | nil => simp
    | cons t ts ih =>
      rw [List.flatMap_cons, List.length_append, List.length_cons]
      have h1 := sc1_len hf t (h t (by simp))
      have h2 := ih (fun x hx => h x (by simp [hx]))
      omega
  · simp
theorem size_f (l : List S63) (hf : few l = true) (t : S27) : types_Size.f t.f0 t.f1 t.f2 l = some ((scalars l [t]).length : Int) := by
  unfold types_Size.f types_Scalars.f
  rw [if_pos ⟨few_small hf, by simp⟩]
  rfl
theorem sizeR_f (k : Nat) (l : List S63) (hf : few l = true) (t : S27) (hk : 1030 ≤ k) : assessorref08_Size.f k t.f0 t.f1 t.f2 l = some ((scalars l [t]).length : Int) := by
  unfold assessorref08_Size.f
  rw [scalarsR_f k l hf _ (by simp) hk]
  rfl
theorem forms_loop (l : List S63) (hf : few l = true) (ts : List S27) (hts : ts.length ≤ 20) (hr : ∀ t ∈ ts, t.f1 ≤ 9223372036854775807) (d : Nat) : ∀ (k j : Nat), j ≤ ts.length → ts.length - j = d → d + 1040 ≤ k → assessorlaw08_TypesForms.l0 k l ts ts (ts.length : Int) (j : Int) = some true := by
  have hfl := few_len hf
  induction d with
  | zero =>
    intro k j hj hd hk
    obtain ⟨k, rfl⟩ : ∃ q, k = q + 1 := ⟨k - 1, by omega⟩
    unfold assessorlaw08_TypesForms.l0
    have hl := scalars_len l hf ts hts
    rw [if_neg (by omega), types_Scalars.f, if_pos ⟨few_small hf, by omega⟩, Option.bind_some, scalarsR_f k l hf ts hts (by omega), Option.bind_some, equal_same k _ (by omega) (by omega), Option.bind_some, if_pos rfl, assessorlaw08_awake.f]
    rfl
  | succ d ih =>
    intro k j hj hd hk
    obtain ⟨k, rfl⟩ : ∃ q, k = q + 1 := ⟨k - 1, by omega⟩
    have hlt : j < ts.length := by omega
    have e1 : rd_T27 ts (j : Int) = ts[j] := by simp [rd_T27, List.getD_eq_getElem?_getD, hlt]
    unfold assessorlaw08_TypesForms.l0
    have hv : types_Valid.f ts[j].f0 ts[j].f1 ts[j].f2 l = some (validS l ts[j]) := rfl
    obtain ⟨s, hs1, hs2⟩ := format_f' k ts[j] (hr _ (List.getElem_mem hlt)) (by omega)
    rw [if_pos (by omega), if_pos (by omega), if_pos (by omega), e1, hv, Option.bind_some, validR_f k l ts[j] (by omega) (by omega), Option.bind_some, if_neg (by simp), hs1, Option.bind_some, hs2, Option.bind_some, if_pos rfl, size_f l hf, Option.bind_some, sizeR_f k l hf _ (by omega), Option.bind_some, if_pos rfl, wrap_nat j (by omega), ih k (j + 1) (by omega) (by omega) (by omega)]
theorem forms_law (k : Nat) (l : List S63) (ts : List S27) (hl : l.length ≤ 9223372036854775807) (hr : ∀ t ∈ ts, t.f1 ≤ 9223372036854775807) (hk : l.length + 1070 ≤ k) : assessorlaw08_TypesForms.f k l ts = some true := by
  obtain ⟨k, rfl⟩ : ∃ q, k = q + 1 := ⟨k - 1, by omega⟩
  have hw : assessorlaw08_awake.f = some true := rfl
  unfold assessorlaw08_TypesForms.f
  rw [few_f _ l hl (by omega), Option.bind_some]
  by_cases fa : few l = true
  · rw [if_pos fa]
    simp only [assessorlaw08_TypesForms.j0]
    by_cases h : (ts.length : Int) > 20
    · rw [if_pos (decide_eq_true h), hw]; rfl
    · rw [if_neg (by simpa using h)]
      exact forms_loop l fa ts (by omega) hr ts.length k 0 (by omega) (by omega) (by omega)
  · rw [if_neg fa]
    simp only [assessorlaw08_TypesForms.j0]
    rw [if_pos trivial, hw]; rfl
end Go.Proofs.Ytigkoknabliboaa.PAll
