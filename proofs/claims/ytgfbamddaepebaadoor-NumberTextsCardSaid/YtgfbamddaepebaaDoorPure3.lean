/- Facts on the texts of numbers: the program's Parse and the reference's agree on every short text. -/
import Derived.Test.YtgfbamddaepebaaDoorPure2
import Derived.Test.YtgfbamddaepebaaDoorPNx19
import Derived.Test.YtgfbamddaepebaaDoorPNx20
namespace Go.Proofs.YtgfbamddaepebaaDoor.PN
open Go.RowKit Go.Proofs.YtgfbamddaepebaaDoorW.PrintWords Go.Proofs.YtgfbamddaepebaaDoorW.PrintLast Go.Proofs.YtgfbamddaepebaaDoorW.PrintMore

theorem take_all : ∀ (l : List UInt8) (n : Nat), n ≤ l.length → ((l.take n).all dgB = true ↔ n ≤ digLen l)
  | [], n, h => by simp at h; subst h; simp
  | c :: l, 0, _ => by simp
  | c :: l, n + 1, h => by
    have ih := take_all l n (by simpa using h)
    unfold digLen at ih ⊢
    rw [List.take_succ_cons, List.all_cons, List.takeWhile_cons]
    cases hc : dgB c with
    | true => simp only [Bool.true_and, ih, if_true, List.length_cons]; omega
    | false => simp
theorem dg_take (s : ByteArray) (n : Nat) (h : n ≤ s.size) : (dgFrom (s.extract 0 n) 0 = true ↔ n ≤ digLen s.data.toList) := by
  unfold dgFrom
  rw [List.drop_zero]
  have : (s.extract 0 n).data.toList = s.data.toList.take n := by simp
  rw [this]
  exact take_all _ _ (by rw [data_length]; exact h)
theorem dg_all (s : ByteArray) : (dgFrom s 0 = true ↔ s.size ≤ digLen s.data.toList) := by
  have h := take_all s.data.toList s.size (by rw [data_length]; exact Nat.le_refl _)
  unfold dgFrom
  rw [List.drop_zero]
  rwa [List.take_of_length_le (by rw [data_length]; exact Nat.le_refl _)] at h
theorem digits_eq (s : ByteArray) : number_digits.f s = some (decide (0 < s.size ∧ s.size ≤ digLen s.data.toList)) := by
  unfold number_digits.f
  congr 1
  have hl := data_length s
  rw [Bool.eq_iff_iff]
  simp only [Bool.and_eq_true, decide_eq_true_eq, dg_all]
  refine and_congr ?_ Iff.rfl
  rw [← hl]
  cases s.data.toList <;> simp
/-- Which letters multiply, and how often by 1024. -/
def fac (c : UInt8) : Option Nat := if c = 75 then some 1 else if c = 77 then some 2 else if c = 71 then some 3 else if c = 84 then some 4 else none
theorem fac_ix (c : UInt8) : Lib.indexByte [75, 77, 71, 84] c = match fac c with | some t => (t : Int) - 1 | none => -1 := by
  unfold fac
  by_cases h1 : c = 75
  · subst h1; decide
  by_cases h2 : c = 77
  · subst h2; decide
  by_cases h3 : c = 71
  · subst h3; decide
  by_cases h4 : c = 84
  · subst h4; decide
  rw [if_neg h1, if_neg h2, if_neg h3, if_neg h4]
  have f : ∀ b : UInt8, c ≠ b → (b == c) = false := fun b hb => by rw [beq_eq_false_iff_ne]; exact fun e => hb e.symm
  simp [Lib.indexByte, f 75 h1, f 77 h2, f 71 h3, f 84 h4]
theorem fac_pos {c : UInt8} {t : Nat} (h : fac c = some t) : 1 ≤ t ∧ t ≤ 4 ∧ dgB c = false := by
  unfold fac at h
  by_cases h1 : c = 75
  · subst h1; simp at h; subst h; decide
  by_cases h2 : c = 77
  · subst h2; simp at h; subst h; decide
  by_cases h3 : c = 71
  · subst h3; simp at h; subst h; decide
  by_cases h4 : c = 84
  · subst h4; simp at h; subst h; decide
  simp [h1, h2, h3, h4] at h
/-- A value, multiplied. -/
def pr (n : Int) (t : Nat) : Int × Int := if 1099511627776 < n * 1024 ^ t then (0, 3) else (n * 1024 ^ t, 0)
def parseOf (s : ByteArray) : Int × Int :=
  if s.data.toList = [109, 97, 120] then (4611686018427387904, 0) else
  if digLen s.data.toList = 0 then (0, 2) else
  if s.size = digLen s.data.toList then pr (valOf s 1099511627777) 0 else
  if s.size ≠ digLen s.data.toList + 1 then (0, 2) else
  match fac (s.data.toList.getD (digLen s.data.toList) 0) with
  | some t => pr (valOf (s.extract 0 (digLen s.data.toList)) 1099511627777) t
  | none => (0, 2)

theorem pr_zero (n : Int) : pr n 0 = if 1099511627776 < n then (0, 3) else (n, 0) := by
  unfold pr; rw [Int.pow_zero, Int.mul_one]
theorem pr_shift (n : Int) (h0 : 0 ≤ n) (h1 : n ≤ 1099511627777) (t : Nat) (ht : 1 ≤ t ∧ t ≤ 4) :
    (if n > (shr .i64 1099511627776 (10 * (t : Int))) then some (0, 3) else some (shl .i64 n (10 * (t : Int)), 0)) = some (pr n t) := by
  have hc : t = 1 ∨ t = 2 ∨ t = 3 ∨ t = 4 := by omega
  have hs : shr .i64 1099511627776 (10 * (t : Int)) = 1099511627776 / 1024 ^ t := by
    rcases hc with rfl | rfl | rfl | rfl <;> decide +kernel
  have hl : n ≤ 1099511627776 / 1024 ^ t → shl .i64 n (10 * (t : Int)) = n * 1024 ^ t := by
    intro hle
    have e : (2 : Int) ^ min (10 * (t : Int)).toNat IntKind.i64.bits = 1024 ^ t := by rcases hc with rfl | rfl | rfl | rfl <;> decide +kernel
    unfold shl
    rw [e, IntKind.wrap_i64]
    rcases hc with rfl | rfl | rfl | rfl <;> simp at hle ⊢ <;> omega
  rw [hs]
  unfold pr
  by_cases h : n > 1099511627776 / 1024 ^ t
  · rw [if_pos h, if_pos (by rcases hc with rfl | rfl | rfl | rfl <;> simp at h ⊢ <;> omega)]
  · rw [if_neg h, hl (by omega), if_neg (by rcases hc with rfl | rfl | rfl | rfl <;> simp at h ⊢ <;> omega)]
theorem j0_any (x : ByteArray) (k : Nat) (t : Nat) (ht : t ≤ 4) : number_Parse.j0 (k + 1) x (10 * (t : Int)) = if 0 < x.size ∧ x.size ≤ digLen x.data.toList then some (pr (valOf x 1099511627777) t) else some (0, 2) := by
  simp only [number_Parse.j0]
  rw [digits_eq, Option.bind_some]
  by_cases h : 0 < x.size ∧ x.size ≤ digLen x.data.toList
  · have hd := (dg_all x).2 h.2
    have hv := valOf_rg x hd
    rw [if_pos (decide_eq_true h), if_pos h]
    unfold number_value.f
    rw [if_pos ⟨hd, by omega, by omega⟩, Option.bind_some, if_pos (by omega)]
    rcases Nat.eq_zero_or_pos t with rfl | h0
    · have e1 : shr .i64 1099511627776 (10 * ((0 : Nat) : Int)) = 1099511627776 := by decide +kernel
      have e2 : shl .i64 (valOf x 1099511627777) (10 * ((0 : Nat) : Int)) = valOf x 1099511627777 := by
        unfold shl
        simp only [Int.natCast_zero, Int.mul_zero, Int.toNat_zero, Nat.zero_min, Int.pow_zero, Int.mul_one]
        rw [IntKind.wrap_i64]
        omega
      rw [e1, e2, pr_zero]
      by_cases hg : valOf x 1099511627777 > 1099511627776
      · rw [if_pos hg, if_pos hg]
      · rw [if_neg hg, if_neg hg]
    · exact pr_shift _ hv.1 hv.2 t ⟨h0, ht⟩
  · rw [if_neg (by simpa using h), if_neg h]
theorem parse_any (s : ByteArray) (hs : s.size ≤ 1000000) (k : Nat) : number_Parse.f (k + 1) s = some (parseOf s) := by
  have hl := data_length s
  have hdl := digLen_le s.data.toList
  unfold number_Parse.f parseOf
  rw [ba_toList]
  by_cases h1 : s.data.toList = [109, 97, 120]
  · rw [if_pos h1, if_pos h1]
  rw [if_neg h1, if_neg h1]
  by_cases h2 : s.data.toList = []
  · have h0 : s.size = 0 := by rw [← hl, h2]; rfl
    have := j0_any s k 0 (by omega)
    rw [if_pos h2, if_pos (by rw [h2]; rfl)]
    rw [if_neg (by omega)] at this
    exact this
  rw [if_neg h2]
  have hpos : 0 < s.size := by
    rcases Nat.eq_zero_or_pos s.size with h | h
    · exact absurd (List.eq_nil_of_length_eq_zero (by omega)) h2
    · exact h
  have hw : wrap64 ((s.size : Int) - 1) = ((s.size - 1 : Nat) : Int) := by rw [wrapS _ (by omega) (by omega)]; omega
  have hlt : s.size - 1 < s.size := by omega
  rw [hw, if_pos (by omega), if_pos (by omega), bt_last s _ hlt]
  simp only [strings_IndexByte.f, Option.bind_some, toU8]
  rw [fac_ix]
  have hgd : ∀ d, d = s.size - 1 → s.data.toList.getD d 0 = s.data.toList[s.size - 1]'(by omega) := fun d hd => by
    subst hd
    simp [List.getD_eq_getElem?_getD, List.getElem?_eq_getElem (show s.size - 1 < s.data.toList.length by omega)]
  have hlastd : s.size ≤ digLen s.data.toList → dgB (s.data.toList[s.size - 1]'(by omega)) = true := fun h => by
    have := (dg_all s).2 h
    unfold dgFrom at this
    rw [List.drop_zero, List.all_eq_true] at this
    exact this _ (List.getElem_mem _)
  cases hf : fac (s.data.toList[s.size - 1]'(by omega)) with
  | none =>
    dsimp only
    rw [if_neg (by omega)]
    have hj := j0_any s k 0 (by omega)
    simp only [Int.natCast_zero, Int.mul_zero] at hj
    rw [hj]
    by_cases h3 : s.size ≤ digLen s.data.toList
    · rw [if_pos ⟨hpos, h3⟩, if_neg (by omega), if_pos (by omega)]
    · rw [if_neg (by omega)]
      by_cases h4 : digLen s.data.toList = 0
      · rw [if_pos h4]
      rw [if_neg h4, if_neg (by omega)]
      by_cases h5 : s.size ≠ digLen s.data.toList + 1
      · rw [if_pos h5]
      · rw [if_neg h5, hgd _ (by omega), hf]
  | some t =>
    obtain ⟨t1, t4, hnd⟩ := fac_pos hf
    have hnd' : ¬ s.size ≤ digLen s.data.toList := fun h => by rw [hlastd h] at hnd; cases hnd
    dsimp only
    have ew : wrap64 (10 * wrap64 ((t : Int) - 1 + 1)) = 10 * (t : Int) := by unfold wrap64; omega
    rw [if_pos (show (t : Int) - 1 ≥ 0 by omega), if_pos (by omega), ew, Int.toNat_natCast, j0_any _ k t t4]
    have hxs : (s.extract 0 (s.size - 1)).size = s.size - 1 := by simp
    have hxd := dg_take s (s.size - 1) (by omega)
    rw [dg_all] at hxd
    by_cases h4 : digLen s.data.toList = 0
    · rw [if_pos h4]
      generalize s.extract 0 (s.size - 1) = x at hxs hxd ⊢
      rw [if_neg (by omega)]
    rw [if_neg h4, if_neg (by omega : ¬ s.size = digLen s.data.toList)]
    by_cases h5 : s.size ≠ digLen s.data.toList + 1
    · rw [if_pos h5]
      generalize s.extract 0 (s.size - 1) = x at hxs hxd ⊢
      rw [if_neg (by omega)]
    · have h6 : digLen s.data.toList = s.size - 1 := by omega
      rw [if_neg h5, hgd _ h6, hf, h6]
      generalize s.extract 0 (s.size - 1) = x at hxs hxd ⊢
      rw [if_pos (by omega)]
end Go.Proofs.YtgfbamddaepebaaDoor.PN
