/- Parsing and formatting agree with the straight reference: the pure statement, for every text, int and row of ints. -/
import Derived.Test.YtgfbamddaepebaaDoorPure6
namespace Go.Proofs.YtgfbamddaepebaaDoor.Pure
open Go.RowKit Go.Proofs.YtgfbamddaepebaaDoor.PN Go.Proofs.YtgfbamddaepebaaDoorW.PrintWords Go.Proofs.YtgfbamddaepebaaDoorW.PrintLast
set_option maxRecDepth 100000

theorem sane_texts : groupcontrollaw2_sane.f 20 = some true := by decide +kernel
theorem sane_any : ∀ k, 20 ≤ k → groupcontrollaw2_sane.f k = some true := by
  intro k hk
  obtain ⟨j, rfl⟩ : ∃ j, k = 20 + j := ⟨k - 20, by omega⟩
  clear hk
  induction j with
  | zero => exact sane_texts
  | succ j ih => exact groupcontrollaw2_sane.mono (20 + j) _ ih

theorem next_ok (k : Nat) (l : List Int) (c n : Int) (hl : l.length ≤ 600) (h0 : 0 ≤ c) (hc : c ≤ l.length) (hn : 1 ≤ n) (hn' : n ≤ 1000000) :
    ∃ r c', groupcontrolmade_Dice_Next.f (k + 1) l c n = some (r, c') ∧ 0 ≤ r ∧ r < n ∧ 0 ≤ c' ∧ c' ≤ l.length := by
  unfold groupcontrolmade_Dice_Next.f
  by_cases h : c ≥ l.length
  · rw [if_pos h]
    exact ⟨0, c, by simp [groupcontrolmade_Dice_Next.j0], by omega, by omega, h0, hc⟩
  · rw [if_neg h, decide_eq_false (by omega)]
    have e1 : wrap64 (wrap64 (c + 1) - 1) = c := by rw [wrapS (c + 1) (by omega) (by omega), wrapS _ (by omega) (by omega)]; omega
    have e2 : wrap64 (c + 1) = c + 1 := wrapS _ (by omega) (by omega)
    simp only [groupcontrolmade_Dice_Next.j0]
    rw [if_neg (by simp), e1, e2, if_pos h0, if_pos (by omega), if_neg (by omega)]
    have b1 := Int.tmod_lt_of_pos (rd l c) (show 0 < n by omega)
    have b2 := Int.lt_tmod_of_pos (rd l c) (show 0 < n by omega)
    generalize Int.tmod (rd l c) n = x at b1 b2 ⊢
    by_cases hx : x < 0
    · rw [if_pos hx, wrapS _ (by omega) (by omega)]
      exact ⟨_, _, rfl, by omega, by omega, by omega, by omega⟩
    · rw [if_neg hx]
      exact ⟨_, _, rfl, by omega, by omega, by omega, by omega⟩
theorem rdOf_size (m : Nat) (x : List ByteArray) (hx : ∀ s ∈ x, s.size ≤ m) (i : Int) : (rdOf ByteArray.empty x i).size ≤ m := by
  unfold rdOf
  rw [List.getD_eq_getElem?_getD]
  cases h : x[i.toNat]? with
  | none => simp
  | some s => exact hx s (List.mem_of_getElem? h)
theorem text_loop (x : List ByteArray) (m : Nat) (hx : ∀ s ∈ x, s.size ≤ m) (hx0 : 1 ≤ x.length) (hx1 : x.length ≤ 1000) (l : List Int) (hl : l.length ≤ 600) : ∀ (n : Nat) (k : Nat) (t : ByteArray) (c : Int), n ≤ 100 → n + 2 ≤ k → 0 ≤ c → c ≤ l.length → t.size + n * m ≤ 1000000 →
    ∃ r c', groupcontrolmade_Dice_Text.l0 k x t (n : Int) l c = some (r, c') ∧ r.size ≤ t.size + n * m ∧ 0 ≤ c' ∧ c' ≤ l.length
  | 0, k, t, c, hn, hk, h0, hc, ht => by
    obtain ⟨k, rfl⟩ : ∃ j, k = j + 1 := ⟨k - 1, by omega⟩
    simp only [groupcontrolmade_Dice_Text.l0]
    rw [if_neg (by omega)]
    exact ⟨_, _, rfl, by omega, h0, hc⟩
  | n + 1, k, t, c, hn, hk, h0, hc, ht => by
    obtain ⟨k, rfl⟩ : ∃ j, k = j + 2 := ⟨k - 2, by omega⟩
    obtain ⟨r, c', e, hr0, hr1, hc0, hc1⟩ := next_ok k l c x.length hl h0 hc (by omega) (by omega)
    have hs := rdOf_size m x hx r
    have hw : wrap64 (((n + 1 : Nat) : Int) - 1) = (n : Int) := by rw [wrapS _ (by omega) (by omega)]; omega
    have hm : (n + 1) * m = n * m + m := Nat.succ_mul n m
    obtain ⟨r2, c2, e2, hs2, hc2, hc3⟩ := text_loop x m hx hx0 hx1 l hl n (k + 1) (t ++ rdOf ByteArray.empty x r) c' (by omega) (by omega) hc0 hc1 (by rw [ByteArray.size_append]; omega)
    refine ⟨r2, c2, ?_, ?_, hc2, hc3⟩
    · simp only [groupcontrolmade_Dice_Text.l0]
      rw [if_pos (by omega), e, Option.bind_some]
      dsimp only
      rw [if_pos hr0, if_pos hr1, if_pos (by omega), hw]
      exact e2
    · rw [ByteArray.size_append] at hs2
      omega
theorem text_ok (k : Nat) (l : List Int) (c : Int) (hl : l.length ≤ 600) (h0 : 0 ≤ c) (hc : c ≤ l.length) (hk : 10 ≤ k) :
    ∃ r c', groupcontrollaw2_text.f k l c = some (r, c') ∧ r.size ≤ 100 ∧ 0 ≤ c' ∧ c' ≤ l.length := by
  obtain ⟨k, rfl⟩ : ∃ j, k = j + 1 := ⟨k - 1, by omega⟩
  unfold groupcontrollaw2_text.f
  generalize hX : ([(⟨#[48]⟩ : ByteArray), (⟨#[49]⟩ : ByteArray), (⟨#[57]⟩ : ByteArray), (⟨#[49, 50]⟩ : ByteArray), (⟨#[49, 48, 57, 57, 53, 49, 49, 54, 50, 55, 55, 55, 54]⟩ : ByteArray), (⟨#[49, 48, 57, 57, 53, 49, 49, 54, 50, 55, 55, 55, 55]⟩ : ByteArray), (⟨#[49, 48, 48]⟩ : ByteArray), (⟨#[46]⟩ : ByteArray), (⟨#[109, 97, 120]⟩ : ByteArray), (⟨#[45]⟩ : ByteArray)] : List ByteArray) = X
  generalize hY : ([(⟨#[]⟩ : ByteArray), (⟨#[]⟩ : ByteArray), (⟨#[75]⟩ : ByteArray), (⟨#[77]⟩ : ByteArray), (⟨#[71]⟩ : ByteArray), (⟨#[84]⟩ : ByteArray), (⟨#[107]⟩ : ByteArray), (⟨#[32]⟩ : ByteArray)] : List ByteArray) = Y
  have lX : X.length = 10 := by rw [← hX]; rfl
  have sX : ∀ s ∈ X, s.size ≤ 13 := by rw [← hX]; decide
  have lY : Y.length = 8 := by rw [← hY]; rfl
  have sY : ∀ s ∈ Y, s.size ≤ 13 := by rw [← hY]; decide
  have e0 : (⟨#[]⟩ : ByteArray).size = 0 := rfl
  unfold groupcontrolmade_Dice_Text.f
  rw [show wrap64 (3 + 1) = 4 by unfold wrap64; omega]
  obtain ⟨n, c1, e1, hn0, hn1, hc1, hc1'⟩ := next_ok k l c 4 hl h0 hc (by omega) (by omega)
  rw [e1, Option.bind_some]
  obtain ⟨n, rfl⟩ := Int.eq_ofNat_of_zero_le hn0
  dsimp only
  obtain ⟨r, c2, e2, hr, hc2, hc2'⟩ := text_loop X 13 sX (by omega) (by omega) l hl n (k + 1) (⟨#[]⟩ : ByteArray) c1 (by omega) (by omega) hc1 hc1' (by omega)
  rw [e2, Option.bind_some]
  rw [Option.bind_some]
  obtain ⟨d, c3, e3, hd0, hd1, hc3, hc3'⟩ := next_ok k l c2 8 hl hc2 hc2' (by omega) (by omega)
  dsimp only
  rw [e3, Option.bind_some]
  dsimp only
  have hs := rdOf_size 13 Y sY d
  rw [if_pos hd0, if_pos (by omega), if_pos (by omega)]
  exact ⟨_, _, rfl, by rw [ByteArray.size_append]; omega, hc3, hc3'⟩
theorem l0_step (k : Nat) (hk : 400 ≤ k) (x1 : Int) (y : List ByteArray) (hy : ∀ s ∈ y, s.size ≤ 300) (i : Nat) (hi : i < y.length) (hl : y.length ≤ 1000) (l : List Int) (c : Int) :
    groupcontrollaw2_NumberTexts.l0 (k + 1) x1 y (y.length : Int) (i : Int) l c = groupcontrollaw2_NumberTexts.l0 k x1 y (y.length : Int) ((i + 1 : Nat) : Int) l c := by
  have hw : wrap64 ((i : Int) + 1) = ((i + 1 : Nat) : Int) := by rw [wrapS _ (by omega) (by omega)]; rfl
  have hs := rdOf_size 300 y hy i
  obtain ⟨k, rfl⟩ : ∃ j, k = j + 1 := ⟨k - 1, by omega⟩
  generalize hk2 : k + 1 = k2
  simp only [groupcontrollaw2_NumberTexts.l0]
  subst hk2
  rw [if_pos (by omega), if_pos (by omega), if_pos (by omega), hw, parse_any _ (by omega), Option.bind_some, ref_parse_any _ (by omega) _ (by omega), Option.bind_some, hund_any _ (by omega), Option.bind_some, ref_hund_any _ (by omega), Option.bind_some,
    if_pos rfl, if_pos rfl, if_pos rfl, if_pos rfl]
theorem l1_step (k : Nat) (hk : 400 ≤ k) (y : List Int) (i : Nat) (hi : i < y.length) (hl : y.length ≤ 1000) :
    groupcontrollaw2_NumberTexts.l1 (k + 1) y (y.length : Int) (i : Int) = groupcontrollaw2_NumberTexts.l1 k y (y.length : Int) ((i + 1 : Nat) : Int) := by
  have hw : wrap64 ((i : Int) + 1) = ((i + 1 : Nat) : Int) := by rw [wrapS _ (by omega) (by omega)]; rfl
  obtain ⟨k, rfl⟩ : ∃ j, k = j + 1 := ⟨k - 1, by omega⟩
  obtain ⟨r, hr, hr'⟩ := format_same (rd y i) (k + 1) (by omega)
  obtain ⟨u, hu, hu'⟩ := fh_same (rd y i) k (by omega)
  generalize hk2 : k + 1 = k2 at *
  simp only [groupcontrollaw2_NumberTexts.l1]
  rw [if_pos (by omega), if_pos (by omega), if_pos (by omega), hw, hr, Option.bind_some, hr', Option.bind_some, hu, Option.bind_some, hu', Option.bind_some,
    if_pos rfl, if_pos rfl, if_pos rfl, if_pos rfl]
theorem l1_all (y : List Int) (hl : y.length ≤ 1000) : ∀ (m i k : Nat), i + m = y.length → 401 + m ≤ k → groupcontrollaw2_NumberTexts.l1 k y (y.length : Int) (i : Int) = some true
  | 0, i, k, hi, hk => by
    obtain ⟨k, rfl⟩ : ∃ j, k = j + 1 := ⟨k - 1, by omega⟩
    simp only [groupcontrollaw2_NumberTexts.l1]
    rw [if_neg (by omega), sane_any k (by omega), Option.bind_some]
  | m + 1, i, k, hi, hk => by
    obtain ⟨k, rfl⟩ : ∃ j, k = j + 1 := ⟨k - 1, by omega⟩
    rw [l1_step k (by omega) y i (by omega) hl]
    exact l1_all y hl m (i + 1) k (by omega) (by omega)
theorem l0_all (x1 : Int) (y : List ByteArray) (hy : ∀ s ∈ y, s.size ≤ 300) (hl : y.length ≤ 1000) (l : List Int) (hll : l.length ≤ 600) (c : Int) (h0 : 0 ≤ c) (hc : c ≤ l.length) : ∀ (m i k : Nat), i + m = y.length → 450 + m ≤ k → groupcontrollaw2_NumberTexts.l0 k x1 y (y.length : Int) (i : Int) l c = some true
  | 0, i, k, hi, hk => by
    obtain ⟨k, rfl⟩ : ∃ j, k = j + 1 + 1 := ⟨k - 2, by omega⟩
    obtain ⟨r, c', e, _⟩ := next_ok k l c 20000 hll h0 hc (by omega) (by omega)
    generalize hk2 : k + 1 = k2 at *
    simp only [groupcontrollaw2_NumberTexts.l0]
    rw [if_neg (by omega), e, Option.bind_some, Option.bind_some]
    exact l1_all _ (by simp) 9 0 k2 (by simp) (by omega)
  | m + 1, i, k, hi, hk => by
    obtain ⟨k, rfl⟩ : ∃ j, k = j + 1 := ⟨k - 1, by omega⟩
    rw [l0_step k (by omega) x1 y hy i (by omega) hl]
    exact l0_all x1 y hy hl l hll c h0 hc m (i + 1) k (by omega) (by omega)
theorem j0_true (k : Nat) (hk : 20 ≤ k) (a : ByteArray) (b : Int) (l : List Int) : groupcontrollaw2_NumberTexts.j0 (k + 1) a b l true = some true := by
  simp only [groupcontrollaw2_NumberTexts.j0]
  rw [if_pos trivial, sane_any k hk, Option.bind_some]
theorem j0_false (k : Nat) (hk : 500 ≤ k) (a : ByteArray) (ha : a.size ≤ 300) (b : Int) (l : List Int) (hl : l.length ≤ 600) : groupcontrollaw2_NumberTexts.j0 (k + 1) a b l false = some true := by
  simp only [groupcontrollaw2_NumberTexts.j0]
  rw [if_neg (show ¬ (false = true) by decide)]
  unfold groupcontrolmade_Roll.f
  rw [Option.bind_some]
  dsimp only
  obtain ⟨r1, c1, e1, s1, h1, h1'⟩ := text_ok k l 0 hl (by omega) (by omega) (by omega)
  rw [e1, Option.bind_some]
  dsimp only
  obtain ⟨r2, c2, e2, s2, h2, h2'⟩ := text_ok k l c1 hl h1 h1' (by omega)
  rw [e2, Option.bind_some]
  dsimp only
  obtain ⟨r3, c3, e3, s3, h3, h3'⟩ := text_ok k l c2 hl h2 h2' (by omega)
  rw [e3, Option.bind_some]
  dsimp only
  rw [if_pos (by omega), Option.bind_some]
  refine l0_all b _ ?_ (by simp) l hl c3 h3 h3' 4 0 k (by simp) (by omega)
  have es : (⟨#[57, 57, 46]⟩ : ByteArray).size = 3 := rfl
  intro s hs
  simp only [List.mem_cons, List.not_mem_nil, or_false] at hs
  rcases hs with rfl | rfl | rfl | rfl
  · exact ha
  · omega
  · omega
  · rw [ByteArray.size_append, es]; omega

theorem NumberTexts : groupcontrollaw2_NumberTexts.Pure := by
  intro a0 a1 l2 _ _ _ _ _
  refine ⟨501, ?_⟩
  unfold groupcontrollaw2_NumberTexts.f groupcontrolmade_Light.f
  generalize hk : (500 : Nat) = k
  have hk' : 500 ≤ k := by omega
  rw [show (501 : Nat) = k + 1 by omega]
  by_cases h : (a0.size : Int) > 300
  · rw [if_pos h, j0_true k (by omega)]
  · rw [if_neg h, Option.bind_some]
    by_cases h2 : (l2.length : Int) ≤ 600
    · rw [decide_eq_true h2]
      exact j0_false k hk' a0 (by omega) a1 l2 (by omega)
    · rw [decide_eq_false h2]
      exact j0_true k (by omega) a0 a1 l2
end Go.Proofs.YtgfbamddaepebaaDoor.Pure
