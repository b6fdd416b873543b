/- Facts on the texts of numbers: the reference's Parse; hundredths of the program and of the reference. -/
import Derived.Test.YtgfbamddaepebaaDoorPure3
import Derived.Test.YtgfbamddaepebaaDoorPNx6
namespace Go.Proofs.YtgfbamddaepebaaDoor.PN
open Go.RowKit Go.Proofs.YtgfbamddaepebaaDoorW.PrintWords Go.Proofs.YtgfbamddaepebaaDoorW.PrintLast Go.Proofs.YtgfbamddaepebaaDoorW.PrintMore

theorem pow1024 (t : Nat) : (1 : Int) ≤ 1024 ^ t := by
  have : 0 < (1024 : Nat) ^ t := Nat.pow_pos (by omega)
  have e : ((1024 ^ t : Nat) : Int) = (1024 : Int) ^ t := by simp
  omega
theorem pr_step (n : Int) (h0 : 0 ≤ n) (h1 : n ≤ 1099511627777) (t : Nat) : pr (mn (wrap64 (1024 * n)) 1099511627777) t = pr n (t + 1) := by
  have hp := pow1024 t
  have ew : wrap64 (1024 * n) = 1024 * n := by unfold wrap64; omega
  have es : n * 1024 ^ (t + 1) = (1024 * n) * 1024 ^ t := by rw [Int.pow_succ, ← Int.mul_assoc, Int.mul_comm (1024 * n), Int.mul_comm n, Int.mul_assoc, Int.mul_comm n]
  rw [ew]
  unfold pr mn
  rw [es]
  by_cases h : 1099511627777 < 1024 * n
  · have a1 : 1099511627776 < 1099511627777 * (1024 : Int) ^ t := by
      have := Int.mul_le_mul_of_nonneg_left hp (show (0 : Int) ≤ 1099511627777 by omega)
      omega
    have a2 : 1099511627776 < 1024 * n * (1024 : Int) ^ t := by
      have := Int.mul_le_mul_of_nonneg_left hp (show (0 : Int) ≤ 1024 * n by omega)
      omega
    rw [if_pos h, if_pos a1, if_pos a2]
  · rw [if_neg h]
theorem mn_bd (n : Int) (h0 : 0 ≤ n) (h1 : n ≤ 1099511627777) : 0 ≤ mn (wrap64 (1024 * n)) 1099511627777 ∧ mn (wrap64 (1024 * n)) 1099511627777 ≤ 1099511627777 := by
  have ew : wrap64 (1024 * n) = 1024 * n := by unfold wrap64; omega
  rw [ew]
  unfold mn
  split <;> omega
theorem ref_times : ∀ (t : Nat) (n : Int) (k : Nat), 0 ≤ n → n ≤ 1099511627777 → t ≤ 100 → t < k → groupcontrolref2_Parse.l0 k n (t : Int) = some (pr n t)
  | 0, n, k, h0, h1, _, hk => by
    obtain ⟨k, rfl⟩ : ∃ m, k = m + 1 := ⟨k - 1, by omega⟩
    simp only [groupcontrolref2_Parse.l0]
    rw [if_neg (by omega), pr_zero]
    by_cases h : n > 1099511627776
    · rw [if_pos h, if_pos h]
    · rw [if_neg h, if_neg h]
  | t + 1, n, k, h0, h1, ht, hk => by
    obtain ⟨k, rfl⟩ : ∃ m, k = m + 1 := ⟨k - 1, by omega⟩
    have hb := mn_bd n h0 h1
    have ih := ref_times t (mn (wrap64 (1024 * n)) 1099511627777) k hb.1 hb.2 (by omega) (by omega)
    have ew : wrap64 (((t + 1 : Nat) : Int) - 1) = (t : Int) := by unfold wrap64; omega
    simp only [groupcontrolref2_Parse.l0]
    rw [if_pos (by omega), ew, ih, pr_step n h0 h1 t]
theorem fac_bytes (c : UInt8) (k : Nat) (v : Int) (h0 : 0 ≤ v) (h1 : v ≤ 1099511627777) (hk : 10 ≤ k) :
    (if (c.toNat : Int) = 75 then (groupcontrolref2_Parse.j1 k v 1) else (if (c.toNat : Int) = 77 then (groupcontrolref2_Parse.j1 k v 2) else (if (c.toNat : Int) = 71 then (groupcontrolref2_Parse.j1 k v 3) else (if (c.toNat : Int) = 84 then (groupcontrolref2_Parse.j1 k v 4) else (some (0, 2)))))) =
    some (match fac c with | some t => pr v t | none => (0, 2)) := by
  obtain ⟨k, rfl⟩ : ∃ m, k = m + 1 := ⟨k - 1, by omega⟩
  have ht : ∀ t : Nat, t ≤ 4 → groupcontrolref2_Parse.j1 (k + 1) v (t : Int) = some (pr v t) := fun t h => by
    simp only [groupcontrolref2_Parse.j1]
    exact ref_times t v k h0 h1 (by omega) (by omega)
  have hn : ∀ (d : UInt8) (n : Nat), d.toNat = n → ((c.toNat : Int) = (n : Int) ↔ c = d) := fun d n hd => by
    constructor
    · intro h; exact UInt8.toNat_inj.1 (by omega)
    · rintro rfl; omega
  have n1 : ((c.toNat : Int) = 75 ↔ c = 75) := hn 75 75 rfl
  have n2 : ((c.toNat : Int) = 77 ↔ c = 77) := hn 77 77 rfl
  have n3 : ((c.toNat : Int) = 71 ↔ c = 71) := hn 71 71 rfl
  have n4 : ((c.toNat : Int) = 84 ↔ c = 84) := hn 84 84 rfl
  unfold fac
  by_cases c1 : c = 75
  · rw [if_pos (n1.2 c1), if_pos c1]; exact ht 1 (by omega)
  rw [if_neg (fun h => c1 (n1.1 h)), if_neg c1]
  by_cases c2 : c = 77
  · rw [if_pos (n2.2 c2), if_pos c2]; exact ht 2 (by omega)
  rw [if_neg (fun h => c2 (n2.1 h)), if_neg c2]
  by_cases c3 : c = 71
  · rw [if_pos (n3.2 c3), if_pos c3]; exact ht 3 (by omega)
  rw [if_neg (fun h => c3 (n3.1 h)), if_neg c3]
  by_cases c4 : c = 84
  · rw [if_pos (n4.2 c4), if_pos c4]; exact ht 4 (by omega)
  rw [if_neg (fun h => c4 (n4.1 h)), if_neg c4]
theorem refDigits_at (s : ByteArray) (hs : s.size ≤ 1000000) (k : Nat) (hk : s.size + 1 ≤ k) : groupcontrolref2_Digits.f k s = some ((digLen s.data.toList : Nat) : Int) :=
  at_rounds (groupcontrolref2_Digits.mono s) hk (refDigits_f s (by omega))
theorem refValue_at (s : ByteArray) (hs : s.size ≤ 1000000) (hd : dgFrom s 0 = true) (k : Nat) (hk : s.size + 1 ≤ k) : groupcontrolref2_value.f k s = some (valOf s 1099511627777) :=
  at_rounds (groupcontrolref2_value.mono s) hk (refValue_f s (by omega) hd)
theorem ref_parse_any (s : ByteArray) (hs : s.size ≤ 1000000) (k : Nat) (hk : s.size + 20 ≤ k) : groupcontrolref2_Parse.f k s = some (parseOf s) := by
  have hl := data_length s
  have hdl := digLen_le s.data.toList
  obtain ⟨k, rfl⟩ : ∃ m, k = m + 1 := ⟨k - 1, by omega⟩
  unfold groupcontrolref2_Parse.f parseOf
  rw [ba_toList]
  by_cases h1 : s.data.toList = [109, 97, 120]
  · rw [if_pos h1, if_pos h1]
  rw [if_neg h1, if_neg h1, refDigits_at s hs (k + 1) (by omega), Option.bind_some]
  have hfd := front_dg s
  generalize hd : digLen s.data.toList = d at hdl hfd ⊢
  have ew : wrap64 ((d : Int) + 1) = ((d + 1 : Nat) : Int) := by unfold wrap64; omega
  by_cases h2 : d = 0
  · rw [if_pos (by omega), if_pos h2]
    simp only [groupcontrolref2_Parse.j0]
    rfl
  rw [if_neg (by omega), if_neg h2, ew]
  have hfs : (s.extract 0 d).size = d := by simp; omega
  have hv := valOf_rg _ hfd
  have hval := refValue_at (s.extract 0 d) (by omega) hfd k (by omega)
  by_cases h3 : s.size > d + 1
  · rw [decide_eq_true (show ((s.size : Int) > ((d + 1 : Nat) : Int)) by omega), if_neg (by omega), if_pos (by omega)]
    simp only [groupcontrolref2_Parse.j0]
    rfl
  rw [decide_eq_false (show ¬ ((s.size : Int) > ((d + 1 : Nat) : Int)) by omega)]
  simp only [groupcontrolref2_Parse.j0]
  rw [if_neg (by decide), if_pos (by omega), if_pos (by omega), Int.toNat_natCast, hval, Option.bind_some, ew]
  by_cases h4 : s.size = d
  · have hall : s.extract 0 d = s := by
      rw [← h4]
      exact ByteArray.ext (by simp)
    rw [if_neg (by omega), if_pos h4, hall, pr_zero]
    by_cases h : valOf s 1099511627777 > 1099511627776
    · rw [if_pos h, if_pos h]
    · rw [if_neg h, if_neg h]
  · rw [if_neg h4, if_neg (by omega : ¬ s.size ≠ d + 1), if_pos (by omega), if_pos (by omega), bt_last s d (by omega), fac_bytes _ k _ hv.1 hv.2 (by omega)]
    have hgd : s.data.toList.getD d 0 = s.data.toList[d]'(by omega) := by
      simp [List.getD_eq_getElem?_getD, List.getElem?_eq_getElem (show d < s.data.toList.length by omega)]
    rw [hgd]
    cases fac (s.data.toList[d]'(by omega)) <;> rfl
end Go.Proofs.YtgfbamddaepebaaDoor.PN
