/- Facts on the dice: what they give is short. -/
import Derived.Test.YtjpbdkfgblmioaaDoorPure1
import Derived.Test.YtjpbdkfgblmioaaDoorPAx19
namespace Go.Proofs.YtjpbdkfgblmioaaDoor.PA
open Go.RowKit Go.Proofs.YtjpbdkfgblmioaaDoorW.PrintWords Go.Proofs.YtjpbdkfgblmioaaDoorW.PrintLast Go.Proofs.YtjpbdkfgblmioaaDoorW.PrintMore

theorem wrapS (x : Int) (h0 : -9223372036854775808 ≤ x) (h1 : x ≤ 9223372036854775807) : wrap64 x = x := by unfold wrap64; omega
theorem next_ok (k : Nat) (l : List Int) (c n : Int) (hl : l.length ≤ 600) (h0 : 0 ≤ c) (hc : c ≤ l.length) (hn : 1 ≤ n) (hn' : n ≤ 1000000) :
    ∃ r c', groupcontrolmade_Dice_Next.f (k + 1) l c n = some (r, c') ∧ 0 ≤ r ∧ r < n ∧ 0 ≤ c' ∧ c' ≤ l.length := by
  unfold groupcontrolmade_Dice_Next.f
  by_cases h : c ≥ l.length
  · rw [if_pos h]
    exact ⟨0, c, by simp [groupcontrolmade_Dice_Next.j0], by omega, by omega, h0, hc⟩
  · rw [if_neg h, decide_eq_false (by omega)]
    have e1 : wrap64 (wrap64 (c + 1) - 1) = c := by rw [wrapS (c + 1) (by omega) (by omega), wrapS _ (by omega) (by omega)]; omega
    have e2 : wrap64 (c + 1) = c + 1 := wrapS _ (by omega) (by omega)
    simp only [groupcontrolmade_Dice_Next.j0]
    rw [if_neg (by simp), e1, e2, if_pos h0, if_pos (by omega), if_neg (by omega)]
    have b1 := Int.tmod_lt_of_pos (rd l c) (show 0 < n by omega)
    have b2 := Int.lt_tmod_of_pos (rd l c) (show 0 < n by omega)
    generalize Int.tmod (rd l c) n = x at b1 b2 ⊢
    by_cases hx : x < 0
    · rw [if_pos hx, wrapS _ (by omega) (by omega)]
      exact ⟨_, _, rfl, by omega, by omega, by omega, by omega⟩
    · rw [if_neg hx]
      exact ⟨_, _, rfl, by omega, by omega, by omega, by omega⟩
theorem rdOf_size (m : Nat) (x : List ByteArray) (hx : ∀ s ∈ x, s.size ≤ m) (i : Int) : (rdOf ByteArray.empty x i).size ≤ m := by
  unfold rdOf
  rw [List.getD_eq_getElem?_getD]
  cases h : x[i.toNat]? with
  | none => simp
  | some s => exact hx s (List.mem_of_getElem? h)
theorem name_ok (k : Nat) (l : List Int) (c : Int) (hl : l.length ≤ 600) (h0 : 0 ≤ c) (hc : c ≤ l.length) :
    ∃ r c', groupcontrolmade_Dice_Name.f (k + 1) l c = some (r, c') ∧ r.size ≤ 10 ∧ 0 ≤ c' ∧ c' ≤ l.length := by
  unfold groupcontrolmade_Dice_Name.f
  generalize hX : ([(⟨#[97]⟩ : ByteArray), (⟨#[98]⟩ : ByteArray), (⟨#[99]⟩ : ByteArray), (⟨#[119, 101, 98]⟩ : ByteArray), (⟨#[100, 98, 45, 49]⟩ : ByteArray), (⟨#[88, 95, 57]⟩ : ByteArray)] : List ByteArray) = X
  have lX : X.length = 6 := by rw [← hX]; rfl
  have sX : ∀ s ∈ X, s.size ≤ 10 := by rw [← hX]; decide
  obtain ⟨n, c1, e1, hn0, hn1, hc1, hc1'⟩ := next_ok k l c 6 hl h0 hc (by omega) (by omega)
  rw [Option.bind_some, e1, Option.bind_some]
  dsimp only
  rw [if_pos hn0, if_pos (by omega)]
  exact ⟨_, _, rfl, rdOf_size 10 X sX n, hc1, hc1'⟩
theorem word_ok (k : Nat) (l : List Int) (c : Int) (hl : l.length ≤ 600) (h0 : 0 ≤ c) (hc : c ≤ l.length) :
    ∃ r c', groupcontrolmade_Dice_Word.f (k + 1) l c = some (r, c') ∧ r.size ≤ 33 ∧ 0 ≤ c' ∧ c' ≤ l.length := by
  unfold groupcontrolmade_Dice_Word.f
  generalize hX : ([(⟨#[97]⟩ : ByteArray), (⟨#[98]⟩ : ByteArray), (⟨#[99]⟩ : ByteArray), (⟨#[119, 101, 98]⟩ : ByteArray), (⟨#[100, 98, 45, 49]⟩ : ByteArray), (⟨#[88, 95, 57]⟩ : ByteArray), (⟨#[]⟩ : ByteArray), (⟨#[45, 97]⟩ : ByteArray), (⟨#[97, 47, 98]⟩ : ByteArray), (⟨#[195, 169]⟩ : ByteArray), (⟨#[97, 97, 97, 97, 97, 97, 97, 97, 97, 97, 97, 97, 97, 97, 97, 97, 97, 97, 97, 97, 97, 97, 97, 97, 97, 97, 97, 97, 97, 97, 97, 97]⟩ : ByteArray), (⟨#[97, 97, 97, 97, 97, 97, 97, 97, 97, 97, 97, 97, 97, 97, 97, 97, 97, 97, 97, 97, 97, 97, 97, 97, 97, 97, 97, 97, 97, 97, 97, 97, 97]⟩ : ByteArray)] : List ByteArray) = X
  have lX : X.length = 12 := by rw [← hX]; rfl
  have sX : ∀ s ∈ X, s.size ≤ 33 := by rw [← hX]; decide
  obtain ⟨n, c1, e1, hn0, hn1, hc1, hc1'⟩ := next_ok k l c 12 hl h0 hc (by omega) (by omega)
  rw [Option.bind_some, e1, Option.bind_some]
  dsimp only
  rw [if_pos hn0, if_pos (by omega)]
  exact ⟨_, _, rfl, rdOf_size 33 X sX n, hc1, hc1'⟩
theorem path_loop (l : List Int) (hl : l.length ≤ 600) : ∀ (n : Nat) (k : Nat) (t : ByteArray) (c : Int), n ≤ 100 → n + 2 ≤ k → 0 ≤ c → c ≤ l.length → t.size + n * 11 ≤ 100000 →
    ∃ r c', groupcontrolmade_Dice_Path.l0 k t (n : Int) l c = some (r, c') ∧ r.size ≤ t.size + n * 11 + 33 ∧ 0 ≤ c' ∧ c' ≤ l.length
  | 0, k, t, c, hn, hk, h0, hc, ht => by
    obtain ⟨k, rfl⟩ : ∃ j, k = j + 1 + 1 := ⟨k - 2, by omega⟩
    obtain ⟨n, c1, e1, hn0, hn1, hc1, hc1'⟩ := next_ok k l c 8 hl h0 hc (by omega) (by omega)
    simp only [groupcontrolmade_Dice_Path.l0]
    rw [if_neg (by omega), e1, Option.bind_some]
    dsimp only
    have es : (⟨#[47]⟩ : ByteArray).size = 1 := rfl
    by_cases h : n = 0
    · rw [if_pos h, if_pos (by omega)]
      exact ⟨_, _, rfl, by rw [ByteArray.size_append]; omega, hc1, hc1'⟩
    · rw [if_neg h]
      by_cases h2 : n = 1
      · rw [if_pos h2]
        obtain ⟨r, c2, e2, hr, hc2, hc2'⟩ := word_ok k l c1 hl hc1 hc1'
        rw [e2, Option.bind_some, if_pos (by dsimp only; omega)]
        exact ⟨_, _, rfl, by rw [ByteArray.size_append]; dsimp only; omega, hc2, hc2'⟩
      · rw [if_neg h2]
        exact ⟨_, _, rfl, by omega, hc1, hc1'⟩
  | n + 1, k, t, c, hn, hk, h0, hc, ht => by
    obtain ⟨k, rfl⟩ : ∃ j, k = j + 1 + 1 := ⟨k - 2, by omega⟩
    obtain ⟨r, c', e, hr, hc0, hc1⟩ := name_ok k l c hl h0 hc
    have hw : wrap64 (((n + 1 : Nat) : Int) - 1) = (n : Int) := by rw [wrapS _ (by omega) (by omega)]; omega
    have es : (⟨#[47]⟩ : ByteArray).size = 1 := rfl
    have ez : (((⟨#[47]⟩ : ByteArray) ++ r)).size = 1 + r.size := by rw [ByteArray.size_append, es]
    obtain ⟨r2, c2, e2, hs2, hc2, hc3⟩ := path_loop l hl n (k + 1) (t ++ ((⟨#[47]⟩ : ByteArray) ++ r)) c' (by omega) (by omega) hc0 hc1 (by rw [ByteArray.size_append]; omega)
    refine ⟨r2, c2, ?_, ?_, hc2, hc3⟩
    · simp only [groupcontrolmade_Dice_Path.l0]
      rw [if_pos (by omega), e, Option.bind_some]
      dsimp only
      rw [if_pos (by omega), if_pos (by omega), hw]
      exact e2
    · rw [ByteArray.size_append] at hs2
      omega
theorem path_ok (k : Nat) (l : List Int) (c : Int) (hl : l.length ≤ 600) (h0 : 0 ≤ c) (hc : c ≤ l.length) (hk : 10 ≤ k) :
    ∃ r c', groupcontrolmade_Dice_Path.f k l c = some (r, c') ∧ r.size ≤ 300 ∧ 0 ≤ c' ∧ c' ≤ l.length := by
  obtain ⟨k, rfl⟩ : ∃ j, k = j + 1 := ⟨k - 1, by omega⟩
  have e0 : (⟨#[]⟩ : ByteArray).size = 0 := rfl
  unfold groupcontrolmade_Dice_Path.f
  obtain ⟨n, c1, e1, hn0, hn1, hc1, hc1'⟩ := next_ok k l c 5 hl h0 hc (by omega) (by omega)
  rw [e1, Option.bind_some]
  obtain ⟨n, rfl⟩ := Int.eq_ofNat_of_zero_le hn0
  dsimp only
  obtain ⟨r, c2, e2, hr, hc2, hc2'⟩ := path_loop l hl n (k + 1) (⟨#[]⟩ : ByteArray) c1 (by omega) (by omega) hc1 hc1' (by omega)
  exact ⟨r, c2, e2, by omega, hc2, hc2'⟩
end Go.Proofs.YtjpbdkfgblmioaaDoor.PA
