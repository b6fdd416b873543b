/- Facts on numerals: a decimal numeral is read back as its number. -/
import Derived.Test.YtgfbamddaepebaaDoorPNx9
import Derived.Test.YtgfbamddaepebaaDoorPNx21
import Derived.Lib.ItoaNum
import Derived.Lib.ItoaLen
namespace Go.Proofs.YtgfbamddaepebaaDoor.PN
open Go.RowKit Go.Proofs.YtgfbamddaepebaaDoorW.PrintWords Go.Proofs.YtgfbamddaepebaaDoorW.PrintLast Go.Proofs.YtgfbamddaepebaaDoorW.PrintMore

theorem wrapS (x : Int) (h0 : -9223372036854775808 ≤ x) (h1 : x ≤ 9223372036854775807) : wrap64 x = x := by unfold wrap64; omega
theorem dig_nat (d : Nat) (h : d < 10) : (UInt8.ofNat (48 + d)).toNat = 48 + d := by
  simp [UInt8.toNat_ofNat']; omega
theorem dig_dgB (d : Nat) (h : d < 10) : dgB (UInt8.ofNat (48 + d)) = true := by
  unfold dgB; rw [dig_nat d h]; simp; omega
theorem dec_digits : ∀ (n u : Nat), u ≤ n → (Lib.decDigits u).all dgB = true ∧ Lib.decDigits u ≠ []
  | 0, u, h => by
    rw [Lib.decDigits_one (by omega)]
    exact ⟨by simp only [List.all_cons, List.all_nil, dig_dgB u (by omega), Bool.and_true], by simp⟩
  | n + 1, u, h => by
    by_cases hu : u < 10
    · rw [Lib.decDigits_one hu]
      exact ⟨by simp only [List.all_cons, List.all_nil, dig_dgB u hu, Bool.and_true], by simp⟩
    · rw [Lib.decDigits, dif_neg hu]
      have ih := dec_digits n (u / 10) (by omega)
      refine ⟨?_, by simp⟩
      rw [List.all_append, ih.1]
      simp only [List.all_cons, List.all_nil, dig_dgB (u % 10) (by omega), Bool.and_true]
theorem dec_value (most : Int) : ∀ (n u : Nat), u ≤ n → (u : Int) ≤ most → (Lib.decDigits u).foldl (valStep most) 0 = u
  | 0, u, h, hm => by
    rw [Lib.decDigits_one (by omega)]
    simp only [List.foldl_cons, List.foldl_nil, valStep, dig_nat u (by omega)]
    omega
  | n + 1, u, h, hm => by
    by_cases hu : u < 10
    · rw [Lib.decDigits_one hu]
      simp only [List.foldl_cons, List.foldl_nil, valStep, dig_nat u hu]
      omega
    · rw [Lib.decDigits, dif_neg hu]
      have ih := dec_value most n (u / 10) (by omega) (by omega)
      rw [List.foldl_append, ih]
      simp only [List.foldl_cons, List.foldl_nil, valStep, dig_nat (u % 10) (by omega)]
      omega
theorem fac_of_digit (c : UInt8) (h : dgB c = true) : Lib.indexByte [75, 77, 71, 84] c = -1 := by
  have f : ∀ b : UInt8, dgB b = false → (b == c) = false := fun b hb => by
    rw [beq_eq_false_iff_ne]
    rintro rfl
    rw [h] at hb
    cases hb
  simp [Lib.indexByte, f 75 (by decide), f 77 (by decide), f 71 (by decide), f 84 (by decide)]
theorem bt_last (s : ByteArray) (i : Nat) (h : i < s.size) : bt s (i : Int) = ((s.data.toList[i]'(by simpa using h)).toNat : Int) := by
  simp [bt, h]; rfl
theorem toU8 (c : UInt8) : ((c.toNat : Int)).toNat.toUInt8 = c := by
  simp
theorem ne_max_of_digit (s : ByteArray) (h : dgFrom s 0 = true) : s.toList ≠ [109, 97, 120] := by
  intro e
  rw [ba_toList] at e
  unfold dgFrom at h
  rw [List.drop_zero, e] at h
  exact absurd h (by decide)
theorem j0_digits (x : ByteArray) (k : Nat) (h : dgFrom x 0 = true) (hne : 0 < x.size) (sh : Int) (hsh : 0 ≤ sh) :
    number_Parse.j0 (k + 1) x sh = if valOf x 1099511627777 > (shr .i64 1099511627776 sh) then some (0, 3) else some (shl .i64 (valOf x 1099511627777) sh, 0) := by
  simp only [number_Parse.j0, number_digits.f, number_value.f]
  have he : x.data.toList.isEmpty = false := by
    have := data_length x
    cases hx : x.data.toList with
    | nil => rw [hx] at this; simp at this; omega
    | cons => rfl
  rw [he, h]
  simp only [Option.bind_some, Bool.not_false, Bool.and_true, if_true, if_pos hsh]
  rw [if_pos ⟨trivial, by omega, by omega⟩]
  rfl
/-- A text of digits: its value, as far as there are numbers. -/
theorem parse_digits (x : ByteArray) (k : Nat) (h : dgFrom x 0 = true) (hne : 0 < x.size) (hsz : x.size ≤ 1000000) :
    number_Parse.f (k + 1) x = if valOf x 1099511627777 > 1099511627776 then some (0, 3) else some (valOf x 1099511627777, 0) := by
  have hm := ne_max_of_digit x h
  have he : x.toList ≠ [] := by
    rw [ba_toList]
    intro e
    have := data_length x
    rw [e] at this
    simp at this
    omega
  have hw : wrap64 ((x.size : Int) - 1) = ((x.size - 1 : Nat) : Int) := by rw [wrapS _ (by omega) (by omega)]; omega
  have hlast : x.size - 1 < x.size := by omega
  have hix : Lib.indexByte [75, 77, 71, 84] (x.data.toList[x.size - 1]'(by simpa using hlast)) = -1 := by
    apply fac_of_digit
    unfold dgFrom at h
    rw [List.drop_zero, List.all_eq_true] at h
    exact h _ (List.getElem_mem _)
  have hv := valOf_bd 1099511627777 (by omega) x.data.toList 0 (fun c hc => by
    unfold dgFrom at h
    rw [List.drop_zero, List.all_eq_true] at h
    exact ((dgB_iff c).1 (h c hc)).1) (by omega) (by omega)
  unfold number_Parse.f
  rw [if_neg hm, if_neg he, hw, if_pos (by omega), if_pos (by omega), bt_last x _ hlast]
  simp only [strings_IndexByte.f, Option.bind_some, toU8]
  rw [hix, if_neg (by omega), j0_digits x k h hne 0 (by omega)]
  have e1 : shr .i64 1099511627776 0 = 1099511627776 := by decide +kernel
  have e2 : shl .i64 (valOf x 1099511627777) 0 = valOf x 1099511627777 := by
    unfold shl
    simp only [Int.toNat_zero, Nat.zero_min, Int.pow_zero, Int.mul_one]
    rw [IntKind.wrap_i64]
    unfold valOf
    omega
  rw [e1, e2]
theorem itoa_dig (n : Nat) (h : n ≤ 1099511627776) : dgFrom ⟨(Lib.itoa n).toArray⟩ 0 = true ∧ 0 < (⟨(Lib.itoa n).toArray⟩ : ByteArray).size ∧ (⟨(Lib.itoa n).toArray⟩ : ByteArray).size ≤ 1000000 ∧ valOf ⟨(Lib.itoa n).toArray⟩ 1099511627777 = n := by
  have e : Lib.itoa n = Lib.decDigits n := by rw [Lib.itoa, if_neg (by omega)]; simp
  have hd := dec_digits n n (Nat.le_refl _)
  have hl : (Lib.itoa n).length ≤ 21 := Lib.itoa_length_le n (by omega) (by omega)
  have hv := dec_value 1099511627777 n n (Nat.le_refl _) (by omega)
  rw [e] at hl ⊢
  refine ⟨?_, ?_, ?_, ?_⟩
  · unfold dgFrom
    rw [List.drop_zero]
    simpa using hd.1
  · show 0 < (Lib.decDigits n).toArray.size
    have := List.length_pos_iff.2 hd.2
    simpa using this
  · show (Lib.decDigits n).toArray.size ≤ 1000000
    simp
    omega
  · unfold valOf
    simpa using hv
/-- What Format writes, Parse reads. -/
theorem format_parse (x : Int) : (∃ s e, number_Format.f x = some (s, e) ∧ e ≠ 0) ∨ (∃ s, number_Format.f x = some (s, 0) ∧ ∀ k, 1 ≤ k → number_Parse.f k s = some (x, 0)) := by
  unfold number_Format.f
  by_cases h1 : x = 4611686018427387904
  · rw [if_pos h1]
    subst h1
    refine .inr ⟨_, rfl, fun k hk => ?_⟩
    unfold number_Parse.f
    rw [if_pos (by rw [ba_toList])]
  · rw [if_neg h1]
    by_cases h2 : x < 0
    · rw [if_pos h2]
      exact .inl ⟨_, _, rfl, by decide⟩
    · rw [if_neg h2]
      by_cases h3 : x > 1099511627776
      · rw [if_pos h3]
        exact .inl ⟨_, _, rfl, by decide⟩
      · rw [if_neg h3]
        obtain ⟨n, rfl⟩ := Int.eq_ofNat_of_zero_le (show 0 ≤ x by omega)
        have hi := itoa_dig n (by omega)
        have e : strconv_Itoa.f (n : Int) = some ⟨(Lib.itoa n).toArray⟩ := by unfold strconv_Itoa.f; rw [if_pos (by omega)]
        rw [e]
        refine .inr ⟨_, rfl, fun k hk => ?_⟩
        obtain ⟨k, rfl⟩ : ∃ j, k = j + 1 := ⟨k - 1, by omega⟩
        rw [parse_digits _ k hi.1 hi.2.1 hi.2.2.1, hi.2.2.2, if_neg (by omega)]
end Go.Proofs.YtgfbamddaepebaaDoor.PN
