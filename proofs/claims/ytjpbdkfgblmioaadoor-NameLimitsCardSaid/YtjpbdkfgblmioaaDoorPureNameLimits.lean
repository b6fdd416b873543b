/- Names have at most 32 bytes, paths at most 8 names, and both bounds are reached: the pure statement, for every pair of 8-bit numbers. -/
import Derived.Test.YtjpbdkfgblmioaaDoorPure1
import Derived.Test.YtjpbdkfgblmioaaDoorPAx26
namespace Go.Proofs.YtjpbdkfgblmioaaDoor.Pure
open Go.RowKit Go.Proofs.YtjpbdkfgblmioaaDoor.PA Go.Proofs.YtjpbdkfgblmioaaDoorW.PrintWords Go.Proofs.YtjpbdkfgblmioaaDoorW.PrintLast
set_option maxRecDepth 100000
theorem wrapL (x : Int) (h0 : -9223372036854775808 ≤ x) (h1 : x ≤ 9223372036854775807) : wrap64 x = x := by unfold wrap64; omega
def aS : Nat → ByteArray
  | 0 => ⟨#[]⟩
  | i + 1 => aS i ++ (⟨#[97]⟩ : ByteArray)
def bP : Nat → ByteArray
  | 0 => ⟨#[]⟩
  | i + 1 => bP i ++ (⟨#[47, 98]⟩ : ByteArray)
def bL : Nat → List ByteArray
  | 0 => []
  | i + 1 => bL i ++ [(⟨#[98]⟩ : ByteArray)]
theorem aS_size : ∀ i, (aS i).size = i
  | 0 => rfl
  | i + 1 => by
    have e : (⟨#[97]⟩ : ByteArray).size = 1 := rfl
    unfold aS
    rw [ByteArray.size_append, aS_size i, e]
theorem bP_size : ∀ i, (bP i).size = 2 * i
  | 0 => rfl
  | i + 1 => by
    have e : (⟨#[47, 98]⟩ : ByteArray).size = 2 := rfl
    unfold bP
    rw [ByteArray.size_append, bP_size i, e]; omega
theorem bL_len : ∀ i, (bL i).length = i
  | 0 => rfl
  | i + 1 => by unfold bL; rw [List.length_append, bL_len i]; rfl
theorem valid_fin : ∀ i : Nat, i < 64 → name_Valid.f (aS i) = some (decide (1 ≤ i) && decide (i ≤ 32)) := by decide +kernel
theorem split_fin : ∀ d : Nat, d < 16 → ((name_Split.f (bP d)).map (fun r => r.2)) = some (if d = 0 then 2 else if 8 < d then 7 else 0) := by decide +kernel
theorem join_fin : ∀ d : Nat, d < 16 → ((name_Join.f (bL d)).map (fun r => r.2)) = some (if 8 < d then 7 else 0) := by decide +kernel
theorem lim_j3 (k i : Nat) (hi : i < 64) : groupcontrollaw1_NameLimits.j3 (k + 1) (i : Int) (aS i) false = some true := by
  simp only [groupcontrollaw1_NameLimits.j3]
  rw [if_neg (show ¬ (false = true) by decide), valid_fin i hi, Option.bind_some]
  by_cases h : (i : Int) ≥ 1
  · rw [if_pos h, decide_eq_true (show 1 ≤ i by omega), Bool.true_and, if_pos (by
      by_cases h2 : i ≤ 32
      · rw [decide_eq_true h2, decide_eq_true (by omega)]; rfl
      · rw [decide_eq_false h2, decide_eq_false (by omega)]; rfl), sane_ok, Option.bind_some]
  · rw [if_neg h, decide_eq_false (show ¬ 1 ≤ i by omega), Bool.false_and, if_pos (by rfl), sane_ok, Option.bind_some]
theorem lim_end (k i d : Nat) (hi : i < 64) (hd : d < 16) : groupcontrollaw1_NameLimits.l1 (k + 1 + 1 + 1) (i : Int) (d : Int) (aS i) (bP d) (bL d) (d : Int) = some true := by
  obtain ⟨r, hr, hr2⟩ := Option.map_eq_some_iff.1 (split_fin d hd)
  obtain ⟨u, hu, hu2⟩ := Option.map_eq_some_iff.1 (join_fin d hd)
  have hj := lim_j3 k i hi
  generalize hk1 : k + 1 = k1 at hj ⊢
  have hj2 : ∀ e f want : Int, (0 < d → e = want) → f = want → groupcontrollaw1_NameLimits.j2 (k1 + 1) (i : Int) (d : Int) (aS i) e f want = some true := by
    intro e f want he hf
    simp only [groupcontrollaw1_NameLimits.j2]
    subst hf
    rw [show (f != f) = false by simp]
    by_cases h : (d : Int) > 0
    · rw [if_pos h, if_pos (he (by omega)), hj]
    · rw [if_neg h, hj]
  generalize hk2 : k1 + 1 = k2 at hj2 ⊢
  simp only [groupcontrollaw1_NameLimits.l1]
  rw [if_neg (by omega), hr, Option.bind_some, hu, Option.bind_some, hr2, hu2]
  by_cases h : (d : Int) > 8
  · rw [if_pos h, if_neg (by omega), if_pos (by omega)]
    exact hj2 _ _ _ (fun _ => rfl) rfl
  · rw [if_neg h, if_neg (by omega : ¬ 8 < d)]
    exact hj2 _ _ _ (fun h0 => by rw [if_neg (by omega)]) rfl
theorem lim_l1 (i d : Nat) (hi : i < 64) (hd : d < 16) : ∀ (m j k : Nat), j + m = d → m + 3 ≤ k → groupcontrollaw1_NameLimits.l1 k (i : Int) (d : Int) (aS i) (bP j) (bL j) (j : Int) = some true
  | 0, j, k, hj, hk => by
    obtain ⟨k, rfl⟩ : ∃ n, k = n + 1 + 1 + 1 := ⟨k - 3, by omega⟩
    obtain rfl : j = d := by omega
    exact lim_end k i j hi hd
  | m + 1, j, k, hj, hk => by
    obtain ⟨k, rfl⟩ : ∃ n, k = n + 1 := ⟨k - 1, by omega⟩
    have ih := lim_l1 i d hi hd m (j + 1) k (by omega) (by omega)
    have hw : wrap64 ((j : Int) + 1) = ((j + 1 : Nat) : Int) := by rw [wrapL _ (by omega) (by omega)]; rfl
    have z1 := bP_size j
    have z2 := bL_len j
    simp only [groupcontrollaw1_NameLimits.l1]
    rw [if_pos (by omega), if_pos (by omega), if_pos (by omega), hw]
    exact ih
theorem lim_l0 (i d : Nat) (hi : i < 64) (hd : d < 16) : ∀ (m j k : Nat), j + m = i → m + 30 ≤ k → groupcontrollaw1_NameLimits.l0 k (i : Int) (d : Int) (aS j) (⟨#[]⟩ : ByteArray) (j : Int) = some true
  | 0, j, k, hj, hk => by
    obtain ⟨k, rfl⟩ : ∃ n, k = n + 1 := ⟨k - 1, by omega⟩
    obtain rfl : j = i := by omega
    have h1 := lim_l1 j d hi hd d 0 k (by omega) (by omega)
    simp only [groupcontrollaw1_NameLimits.l0]
    rw [if_neg (by omega)]
    exact h1
  | m + 1, j, k, hj, hk => by
    obtain ⟨k, rfl⟩ : ∃ n, k = n + 1 := ⟨k - 1, by omega⟩
    have ih := lim_l0 i d hi hd m (j + 1) k (by omega) (by omega)
    have hw : wrap64 ((j : Int) + 1) = ((j + 1 : Nat) : Int) := by rw [wrapL _ (by omega) (by omega)]; rfl
    have z1 := aS_size j
    simp only [groupcontrollaw1_NameLimits.l0]
    rw [if_pos (by omega), if_pos (by omega), hw]
    exact ih
theorem NameLimits : groupcontrollaw1_NameLimits.Pure := by
  intro a0 a1 w0 w1
  have b0 : 0 ≤ a0 ∧ a0 ≤ 255 := by
    have e1 : IntKind.u8.min = 0 := rfl
    have e2 : IntKind.u8.max = 255 := rfl
    simpa [Lit.wf, e1, e2] using w0
  have b1 : 0 ≤ a1 ∧ a1 ≤ 255 := by
    have e1 : IntKind.u8.min = 0 := rfl
    have e2 : IntKind.u8.max = 255 := rfl
    simpa [Lit.wf, e1, e2] using w1
  obtain ⟨x, rfl⟩ := Int.eq_ofNat_of_zero_le b0.1
  obtain ⟨y, rfl⟩ := Int.eq_ofNat_of_zero_le b1.1
  have ex : Int.tmod (wrap64 (x : Int)) 64 = ((x % 64 : Nat) : Int) := by rw [wrapL _ (by omega) (by omega), Int.tmod_eq_emod_of_nonneg (by omega)]; rfl
  have ey : Int.tmod (wrap64 (y : Int)) 16 = ((y % 16 : Nat) : Int) := by rw [wrapL _ (by omega) (by omega), Int.tmod_eq_emod_of_nonneg (by omega)]; rfl
  refine ⟨100, ?_⟩
  unfold groupcontrollaw1_NameLimits.f
  rw [ex, ey]
  exact lim_l0 (x % 64) (y % 16) (by omega) (by omega) (x % 64) 0 100 (by omega) (by omega)
end Go.Proofs.YtjpbdkfgblmioaaDoor.Pure
