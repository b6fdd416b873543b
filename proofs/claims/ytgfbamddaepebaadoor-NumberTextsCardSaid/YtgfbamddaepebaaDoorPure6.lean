/- Facts on texts of numbers: the program's and the reference's agree on every int. -/
import Derived.Test.YtgfbamddaepebaaDoorPure5
import Derived.Test.YtgfbamddaepebaaDoorPNx24
namespace Go.Proofs.YtgfbamddaepebaaDoor.PN
open Go.RowKit Go.Proofs.YtgfbamddaepebaaDoorW.PrintWords Go.Proofs.YtgfbamddaepebaaDoorW.PrintLast Go.Proofs.YtgfbamddaepebaaDoorW.PrintMore

theorem ref_hund_any (s : ByteArray) (hs : s.size ≤ 1000000) : groupcontrolref2_Hundredths.f s = some (refH s) := by
  unfold groupcontrolref2_Hundredths.f
  rw [if_pos hs]
theorem dec_step (u : Nat) (x : ByteArray) (k : Nat) (hu : u ≤ 1099511627776) (hx : x.size ≤ 1000) (hux : 0 < u ∨ x.size = 0) :
    groupcontrolref2_Decimal.l0 (k + 1) (u : Int) x = groupcontrolref2_Decimal.l0 k ((u / 10 : Nat) : Int) ((⟨#[UInt8.ofNat (48 + u % 10)]⟩ : ByteArray) ++ x) := by
  have e1 : Int.tmod (u : Int) 10 = ((u % 10 : Nat) : Int) := by rw [Int.tmod_eq_emod_of_nonneg (by omega)]; rfl
  have e2 : wrap64 (Int.tdiv (u : Int) 10) = ((u / 10 : Nat) : Int) := by
    rw [Int.tdiv_eq_ediv_of_nonneg (by omega)]; exact wrapS _ (by omega) (by omega)
  have e3 : (wrap64 (48 + ((u % 10 : Nat) : Int))) % 256 = ((48 + u % 10 : Nat) : Int) := by rw [wrapS _ (by omega) (by omega)]; omega
  have es : ∀ n : Nat, strOfNums [(n : Int)] = (⟨#[UInt8.ofNat n]⟩ : ByteArray) := fun n => rfl
  have ez : ∀ c : UInt8, (⟨#[c]⟩ : ByteArray).size = 1 := fun c => rfl
  simp only [groupcontrolref2_Decimal.l0]
  by_cases h : (u : Int) > 0
  · rw [if_pos h, Option.bind_some, e1, e3, es, ez, if_pos (by omega), e2]
  · have hx0 : x.toList = [] := by
      rw [ba_toList]
      exact List.length_eq_zero_iff.1 (by have := data_length x; omega)
    rw [if_neg h, if_pos hx0, Option.bind_some, e1, e3, es, ez, if_pos (by omega), e2]
theorem dec_done (x : ByteArray) (k : Nat) (hx : x.size ≠ 0) : groupcontrolref2_Decimal.l0 (k + 1) 0 x = some x := by
  have hx0 : x.toList ≠ [] := by
    rw [ba_toList]
    intro h
    have := data_length x
    rw [h] at this
    exact hx this.symm
  simp only [groupcontrolref2_Decimal.l0]
  rw [if_neg (by omega), if_neg hx0]
theorem dec_all : ∀ (d u k : Nat) (x : ByteArray), u < 10 ^ (d + 1) → u ≤ 1099511627776 → x.size + d + 1 ≤ 1000 → d + 2 ≤ k → (0 < u ∨ x.size = 0) → groupcontrolref2_Decimal.l0 k (u : Int) x = some ((⟨(Lib.decDigits u).toArray⟩ : ByteArray) ++ x)
  | 0, u, k, x, hu, hb, hx, hk, h => by
    obtain ⟨k, rfl⟩ : ∃ j, k = j + 2 := ⟨k - 2, by omega⟩
    have hu : u < 10 := by simpa using hu
    rw [dec_step u x (k + 1) hb (by omega) h, show ((u / 10 : Nat) : Int) = 0 by omega, dec_done _ _ (by rw [ByteArray.size_append, show ∀ c : UInt8, (⟨#[c]⟩ : ByteArray).size = 1 from fun c => rfl]; omega), Lib.decDigits, dif_pos hu, Nat.mod_eq_of_lt hu]
  | d + 1, u, k, x, hu, hb, hx, hk, h => by
    obtain ⟨k, rfl⟩ : ∃ j, k = j + 2 := ⟨k - 2, by omega⟩
    have es : ∀ c : UInt8, (⟨#[c]⟩ : ByteArray).size = 1 := fun c => rfl
    rw [dec_step u x (k + 1) hb (by omega) h]
    by_cases h10 : u < 10
    · rw [show ((u / 10 : Nat) : Int) = 0 by omega, dec_done _ _ (by rw [ByteArray.size_append, es]; omega), Lib.decDigits, dif_pos h10, Nat.mod_eq_of_lt h10]
    · rw [dec_all d (u / 10) (k + 1) _ (by rw [Nat.pow_succ] at hu; omega) (by omega) (by rw [ByteArray.size_append, es]; omega) (by omega) (.inl (by omega))]
      congr 1
      apply data_ext
      rw [Lib.decDigits.eq_def u, dif_neg h10]
      simp
theorem dec_f (u k : Nat) (hu : u ≤ 1099511627776) (hk : 20 ≤ k) : groupcontrolref2_Decimal.f k (u : Int) = some ⟨(Lib.decDigits u).toArray⟩ := by
  have e0 : (⟨#[]⟩ : ByteArray).size = 0 := rfl
  unfold groupcontrolref2_Decimal.f
  rw [dec_all 12 u k _ (by omega) hu (by omega) (by omega) (.inr rfl)]
  congr 1
  exact data_ext (by simp)
theorem itoa_nat (u : Nat) : Lib.itoa (u : Int) = Lib.decDigits u := by
  unfold Lib.itoa
  rw [if_neg (by omega)]; rfl

theorem format_same (x : Int) (k : Nat) (hk : 20 ≤ k) : ∃ r, number_Format.f x = some r ∧ groupcontrolref2_Format.f k x = some r := by
  unfold number_Format.f groupcontrolref2_Format.f
  by_cases h1 : x = 4611686018427387904
  · rw [if_pos h1, if_pos h1]; exact ⟨_, rfl, rfl⟩
  rw [if_neg h1, if_neg h1]
  by_cases h2 : x < 0
  · rw [if_pos h2, if_pos h2]; exact ⟨_, rfl, rfl⟩
  rw [if_neg h2, if_neg h2]
  by_cases h3 : x > 1099511627776
  · rw [if_pos h3, if_pos h3]; exact ⟨_, rfl, rfl⟩
  rw [if_neg h3, if_neg h3]
  obtain ⟨u, rfl⟩ := Int.eq_ofNat_of_zero_le (show 0 ≤ x by omega)
  rw [dec_f u k (by omega) hk, Option.bind_some]
  unfold strconv_Itoa.f
  rw [if_pos (by omega), Option.bind_some, itoa_nat]
  exact ⟨_, rfl, rfl⟩
theorem back2 : ∀ m : Nat, m < 100 → Lib.itoa ((100 + m : Nat) : Int) = [49, UInt8.ofNat (48 + m / 10), UInt8.ofNat (48 + m % 10)] := by decide +kernel
theorem dec1 : ∀ m : Nat, m < 10 → Lib.decDigits m = [UInt8.ofNat (48 + m)] := by decide +kernel
theorem fh_same (x : Int) (k : Nat) (hk : 20 ≤ k) : ∃ r, number_FormatHundredths.f x = some r ∧ groupcontrolref2_FormatHundredths.f (k + 1) x = some r := by
  unfold number_FormatHundredths.f groupcontrolref2_FormatHundredths.f
  by_cases h1 : x < 0
  · rw [if_neg (by omega), if_pos (.inl h1), if_pos h1]
    simp only [groupcontrolref2_FormatHundredths.j0]
    rw [if_pos trivial]; exact ⟨_, rfl, rfl⟩
  rw [if_neg h1]
  by_cases h2 : x > 10000
  · rw [if_neg (by omega), if_pos (.inr h2), decide_eq_true h2]
    simp only [groupcontrolref2_FormatHundredths.j0]
    rw [if_pos trivial]; exact ⟨_, rfl, rfl⟩
  rw [decide_eq_false h2]
  simp only [groupcontrolref2_FormatHundredths.j0]
  rw [if_neg (show ¬ (false = true) by decide)]
  by_cases h3 : x = 10000
  · rw [if_pos h3, if_pos h3]; exact ⟨_, rfl, rfl⟩
  rw [if_neg h3, if_neg h3, if_neg (by omega)]
  obtain ⟨u, rfl⟩ := Int.eq_ofNat_of_zero_le (show 0 ≤ x by omega)
  have e1 : wrap64 (Int.tdiv (u : Int) 100) = ((u / 100 : Nat) : Int) := by
    rw [Int.tdiv_eq_ediv_of_nonneg (by omega)]; exact wrapS _ (by omega) (by omega)
  have e2 : wrap64 (Int.tdiv (u : Int) 10) = ((u / 10 : Nat) : Int) := by
    rw [Int.tdiv_eq_ediv_of_nonneg (by omega)]; exact wrapS _ (by omega) (by omega)
  have e3 : Int.tmod ((u / 10 : Nat) : Int) 10 = ((u / 10 % 10 : Nat) : Int) := by rw [Int.tmod_eq_emod_of_nonneg (by omega)]; rfl
  have e4 : Int.tmod (u : Int) 10 = ((u % 10 : Nat) : Int) := by rw [Int.tmod_eq_emod_of_nonneg (by omega)]; rfl
  have l1 : (Lib.decDigits (u / 100)).length ≤ 2 := fhFront_size _ (by omega)
  have es : (⟨#[46]⟩ : ByteArray).size = 1 := rfl
  have ez : ∀ l : List UInt8, (⟨l.toArray⟩ : ByteArray).size = l.length := fun l => by simp [ByteArray.size]
  have s1 : (⟨(Lib.decDigits (u / 100)).toArray⟩ : ByteArray).size ≤ 2 := by rw [ez]; exact l1
  have sc : ∀ c : UInt8, (⟨[c].toArray⟩ : ByteArray).size = 1 := fun _ => rfl
  rw [e1, e2, e3, e4, dec_f _ k (by omega) hk, Option.bind_some, if_pos (by rw [ez]; omega), dec_f _ k (by omega) hk, Option.bind_some, dec1 (u / 10 % 10) (by omega),
    if_pos (by rw [ByteArray.size_append, es, sc]; omega), dec_f _ k (by omega) hk, Option.bind_some, dec1 (u % 10) (by omega), if_pos (by rw [ByteArray.size_append, ByteArray.size_append, es, sc, sc]; omega)]
  refine ⟨_, rfl, ?_⟩
  congr 2
  apply data_ext
  unfold fhFront fhBack
  rw [show (100 : Int) + (u : Int) % 100 = ((100 + u % 100 : Nat) : Int) by omega, back2 (u % 100) (by omega), show ((u : Int) / 100).toNat = u / 100 by omega, ez, show u % 100 / 10 = u / 10 % 10 by omega, show u % 100 % 10 = u % 10 by omega]
  simp
end Go.Proofs.YtgfbamddaepebaaDoor.PN
