/- Facts on hundredths: the program's and the reference's agree on every short text. -/
import Derived.Test.YtgfbamddaepebaaDoorPure4
namespace Go.Proofs.YtgfbamddaepebaaDoor.PN
open Go.RowKit Go.Proofs.YtgfbamddaepebaaDoorW.PrintWords Go.Proofs.YtgfbamddaepebaaDoorW.PrintLast Go.Proofs.YtgfbamddaepebaaDoorW.PrintMore

theorem ix_spec (c : UInt8) : ∀ l : List UInt8, (Lib.indexByte l c = -1 ∧ ∀ (j : Nat) (h : j < l.length), l[j] ≠ c) ∨ (∃ n : Nat, Lib.indexByte l c = n ∧ ∃ h : n < l.length, l[n] = c ∧ ∀ (j : Nat) (hj : j < n), l[j]'(by omega) ≠ c)
  | [] => .inl ⟨rfl, fun j h => by simp at h⟩
  | b :: l => by
    unfold Lib.indexByte
    by_cases hb : b = c
    · subst hb
      exact .inr ⟨0, by simp, by simp, by simp, fun j hj => by omega⟩
    · have hbb : (b == c) = false := by simpa using hb
      rw [hbb]
      rcases ix_spec c l with ⟨h1, h2⟩ | ⟨n, h1, hn, h2, h3⟩
      · rw [h1]
        refine .inl ⟨by simp, fun j h => ?_⟩
        cases j with
        | zero => simpa using hb
        | succ j => simpa using h2 j (by simpa using h)
      · rw [h1]
        refine .inr ⟨n + 1, ?_, by simp; omega, by simpa using h2, fun j hj => ?_⟩
        · rw [if_neg (by decide), if_neg (by rw [beq_iff_eq]; omega)]; rfl
        · cases j with
          | zero => simpa using hb
          | succ j => simpa using h3 j (by omega)
/-- The number that digits stand for. -/
def nvF (n : Int) (l : List UInt8) : Int := l.foldl (fun n c => 10 * n + ((c.toNat : Int) - 48)) n
theorem nvF_nonneg : ∀ (l : List UInt8) (n : Int), l.all dgB = true → 0 ≤ n → n ≤ nvF n l
  | [], n, _, h => Int.le_refl _
  | c :: l, n, hl, h => by
    simp only [List.all_cons, Bool.and_eq_true] at hl
    have hc := (dgB_iff c).1 hl.1
    have ih := nvF_nonneg l (10 * n + ((c.toNat : Int) - 48)) hl.2 (by omega)
    show n ≤ nvF (10 * n + ((c.toNat : Int) - 48)) l
    omega
theorem val_min (most : Int) (hm : 0 ≤ most) : ∀ (l : List UInt8) (n : Int), l.all dgB = true → 0 ≤ n → l.foldl (valStep most) (min n most) = min (nvF n l) most
  | [], n, _, _ => rfl
  | c :: l, n, hl, h => by
    simp only [List.all_cons, Bool.and_eq_true] at hl
    have hc := (dgB_iff c).1 hl.1
    have ih := val_min most hm l (10 * n + ((c.toNat : Int) - 48)) hl.2 (by omega)
    have e : valStep most (min n most) c = min (10 * n + ((c.toNat : Int) - 48)) most := by unfold valStep; omega
    simp only [List.foldl_cons]
    rw [e]
    exact ih
def nv (s : ByteArray) : Int := nvF 0 s.data.toList
theorem valOf_nv (s : ByteArray) (most : Int) (hm : 0 ≤ most) (hd : dgFrom s 0 = true) : valOf s most = min (nv s) most := by
  unfold dgFrom at hd
  rw [List.drop_zero] at hd
  have := val_min most hm s.data.toList 0 hd (by omega)
  rwa [show min (0 : Int) most = 0 by omega] at this
theorem nv_nonneg (s : ByteArray) (hd : dgFrom s 0 = true) : 0 ≤ nv s := by
  unfold dgFrom at hd
  rw [List.drop_zero] at hd
  exact nvF_nonneg _ 0 hd (by omega)
theorem nvF_append (l m : List UInt8) (n : Int) : nvF n (l ++ m) = nvF (nvF n l) m := by unfold nvF; rw [List.foldl_append]

theorem hj0_err (k : Nat) (a b : ByteArray) : number_Hundredths.j0 (k + 1) a b true = some (0, 2) := by
  simp only [number_Hundredths.j0]; rfl
/-- Front and back, both fit. -/
theorem hj0_ok (k : Nat) (a b : ByteArray) (ha : dgFrom a 0 = true) (hb : b.size ≤ 2) (hbd : dgFrom ((b ++ (⟨#[48, 48]⟩ : ByteArray)).extract 0 2) 0 = true) :
    number_Hundredths.j0 (k + 1) a b false = some (hSum (min (nv a) 10000 * 100 + valOf ((b ++ (⟨#[48, 48]⟩ : ByteArray)).extract 0 2) 10000)) := by
  have es : (⟨#[48, 48]⟩ : ByteArray).size = 2 := rfl
  have hz : (b ++ (⟨#[48, 48]⟩ : ByteArray)).size = b.size + 2 := by rw [ByteArray.size_append, es]
  have ha0 := nv_nonneg a ha
  have hv := valOf_bd 10000 (by omega) ((b ++ (⟨#[48, 48]⟩ : ByteArray)).extract 0 2).data.toList 0 (fun c hc => by
    unfold dgFrom at hbd
    rw [List.drop_zero, List.all_eq_true] at hbd
    exact ((dgB_iff c).1 (hbd c hc)).1) (by omega) (by omega)
  simp only [number_Hundredths.j0]
  rw [if_neg (by decide)]
  unfold number_value.f
  rw [if_pos ⟨ha, by omega, by omega⟩, Option.bind_some, if_pos (by omega), if_pos (by omega), if_pos (by omega), if_pos ⟨hbd, by omega, by omega⟩, Option.bind_some, valOf_nv a 10000 (by omega) ha]
  unfold valOf at hv ⊢
  generalize ((b ++ (⟨#[48, 48]⟩ : ByteArray)).extract 0 2).data.toList.foldl (valStep 10000) 0 = v at hv ⊢
  have ew : wrap64 ((wrap64 (min (nv a) 10000 * 100)) + v) = min (nv a) 10000 * 100 + v := by unfold wrap64; omega
  rw [ew]
  unfold hSum
  by_cases h : min (nv a) 10000 * 100 + v > 10000
  · rw [if_pos h, if_pos h]
  · rw [if_neg h, if_neg h]
theorem hsum_cap (x f : Int) (h0 : 0 ≤ x) (f0 : 0 ≤ f) : hSum (min x 10000 * 100 + f) = hSum (100 * min (min x 1099511627777) 1000 + f) := by
  unfold hSum
  by_cases h : x ≤ 100
  · rw [show min x 10000 * 100 + f = 100 * min (min x 1099511627777) 1000 + f by omega]
  · rw [if_pos (by omega), if_pos (by omega)]
theorem extract_all (s : ByteArray) (n : Nat) (h : s.size ≤ n) : s.extract 0 n = s := ByteArray.ext (by simp; exact .inr h)
theorem data_ext {a b : ByteArray} (h : a.data.toList = b.data.toList) : a = b := ByteArray.ext (Array.toList_inj.1 h)
theorem dgFrom_iff (s : ByteArray) : dgFrom s 0 = true ↔ s.data.toList.all dgB = true := by unfold dgFrom; rw [List.drop_zero]

theorem hund_any (s : ByteArray) (hs : s.size ≤ 1000000) (k : Nat) : number_Hundredths.f (k + 1) s = some (refH s) := by
  have hl := data_length s
  have hdl := digLen_le s.data.toList
  unfold number_Hundredths.f refH
  rw [ba_toList]
  by_cases h1 : s.data.toList = [109, 97, 120]
  · rw [if_pos h1, if_pos h1]
  rw [if_neg h1, if_neg h1]
  have ecut : strings_Cut.f s (⟨#[46]⟩ : ByteArray) = some (cut1 s 46) := by
    unfold strings_Cut.f
    rw [if_pos (by omega)]
  rw [ecut, Option.bind_some]
  have hnd : ∀ (d : Nat) (h : d < s.data.toList.length), digLen s.data.toList = d → dgB s.data.toList[d] = false := by
    intro d h e
    cases hc : dgB s.data.toList[d] with
    | false => rfl
    | true =>
      have := (take_all s.data.toList (d + 1) (by omega)).1 (by
        rw [List.take_succ_eq_append_getElem h, List.all_append, (take_all s.data.toList d (by omega)).2 (by omega)]
        simp only [List.all_cons, List.all_nil, hc, Bool.and_true])
      omega
  have hdg : ∀ (j : Nat) (h : j < s.data.toList.length), j < digLen s.data.toList → dgB s.data.toList[j] = true := by
    intro j h hj
    have := (take_all s.data.toList (j + 1) (by omega)).2 (by omega)
    rw [List.take_succ_eq_append_getElem h, List.all_append, Bool.and_eq_true] at this
    simpa using this.2
  have d46 : dgB 46 = false := by decide
  have hfd := front_dg s
  generalize hd : digLen s.data.toList = d at hdl hfd hdg hnd ⊢
  unfold cut1
  rcases ix_spec 46 s.data.toList with ⟨hi, hno⟩ | ⟨n, hi, hn, hat, hbefore⟩
  · -- no point
    rw [hi, if_neg (by omega)]
    dsimp only
    rw [digits_eq, Option.bind_some, hd]
    by_cases h2 : d = 0
    · rw [if_pos h2, decide_eq_false (by omega), if_neg (by decide), hj0_err]
    rw [if_neg h2]
    by_cases h3 : s.size ≤ d
    · have hall : s.extract 0 d = s := extract_all s d h3
      rw [hall] at hfd
      rw [if_pos h3, decide_eq_true (by omega), if_pos rfl, if_neg (by decide), hj0_ok k s _ hfd (by decide) (by decide)]
      have e0 : valOf (((⟨#[]⟩ : ByteArray) ++ (⟨#[48, 48]⟩ : ByteArray)).extract 0 2) 10000 = 0 := by decide
      unfold hWhole
      rw [e0, hall, hsum_cap _ 0 (nv_nonneg s hfd) (by omega), valOf_nv s 1099511627777 (by omega) hfd, Int.add_zero]
    · rw [if_neg h3, decide_eq_false (by omega), if_neg (by decide), hj0_err]
      have hne : s.data.toList.getD d 0 ≠ 46 := by
        have := hno d (by omega)
        simpa [List.getD_eq_getElem?_getD, List.getElem?_eq_getElem (show d < s.data.toList.length by omega)] using this
      rw [if_pos (.inl hne)]
  · have hdn : d ≤ n := by
      rcases Nat.lt_or_ge n d with h | h
      · have := hdg n hn h
        rw [hat, d46] at this
        cases this
      · exact h
    have hn' : n < s.size := by omega
    rw [hi, if_pos (by omega)]
    dsimp only
    rw [Int.toNat_natCast, digits_eq, Option.bind_some]
    have hxs : (s.extract 0 n).size = n := by simp; omega
    have hxd := dg_take s n (by omega)
    rw [dg_all, hd] at hxd
    by_cases h2 : d = 0
    · rw [if_pos h2]
      generalize s.extract 0 n = x at hxs hxd ⊢
      rw [decide_eq_false (by omega), if_neg (by decide), hj0_err]
    rw [if_neg h2, if_neg (by omega : ¬ s.size ≤ d)]
    by_cases h3 : n ≠ d
    · have hne : s.data.toList.getD d 0 ≠ 46 := by
        have := hbefore d (by omega)
        simpa [List.getD_eq_getElem?_getD, List.getElem?_eq_getElem (show d < s.data.toList.length by omega)] using this
      rw [if_pos (show s.data.toList.getD d 0 ≠ 46 ∨ _ from .inl hne)]
      generalize s.extract 0 n = x at hxs hxd ⊢
      rw [decide_eq_false (by omega), if_neg (by decide), hj0_err]
    have h3 : n = d := by omega
    subst h3
    have heq : s.data.toList.getD n 0 = 46 := by
      simpa [List.getD_eq_getElem?_getD, List.getElem?_eq_getElem (show n < s.data.toList.length by omega)] using hat
    have htl : s.extract (n + 1) s.size = hTail s n := by
      unfold hTail
      apply data_ext
      simp
      omega
    have hts : (hTail s n).size = s.size - n - 1 := by unfold hTail; simp
    have hml := digLen_le (hTail s n).data.toList
    rw [data_length] at hml
    rw [decide_eq_true (show 0 < (s.extract 0 n).size ∧ (s.extract 0 n).size ≤ digLen (s.extract 0 n).data.toList from ⟨by omega, hxd.2 (by omega)⟩), if_pos rfl, if_pos rfl, htl, digits_eq, Option.bind_some]
    have hwd := whole_dg (hTail s n)
    generalize hm : digLen (hTail s n).data.toList = m at hml hwd ⊢
    generalize hT : hTail s n = b at hts hml hwd ⊢
    by_cases h4 : 0 < b.size ∧ b.size ≤ m
    · rw [decide_eq_true h4, if_pos rfl]
      have hbd := hwd (by omega)
      by_cases h5 : b.size > 2
      · rw [decide_eq_true (by omega), hj0_err, if_pos (.inr (.inr (.inl (by omega))))]
      rw [decide_eq_false (by omega)]
      rw [if_neg (by
        rintro (h | h | h | h)
        · exact h heq
        all_goals omega)]
      have hbl := data_length b
      have hnn := nv_nonneg _ hfd
      have hbn := nv_nonneg _ hbd
      unfold hWhole
      rw [valOf_nv (s.extract 0 n) 1099511627777 (by omega) hfd, valOf_nv b 1099511627777 (by omega) hbd]
      have hbv := valOf_len b 2 (by omega) hbd
      rw [valOf_nv b 1099511627777 (by omega) hbd] at hbv
      have hbv : min (nv b) 1099511627777 ≤ 99 := by simpa using hbv
      by_cases h6 : m = 1
      · rw [if_pos h6]
        obtain ⟨c, hc⟩ : ∃ c, b.data.toList = [c] := List.length_eq_one_iff.1 (by omega)
        have hx : ((b ++ (⟨#[48, 48]⟩ : ByteArray)).extract 0 2).data.toList = [c, 48] := by
          have hb1 : 2 - b.size = 1 := by omega
          simp [hc, hb1]
        rw [dgFrom_iff, hc] at hbd
        have hxd2 : dgFrom ((b ++ (⟨#[48, 48]⟩ : ByteArray)).extract 0 2) 0 = true := by
          rw [dgFrom_iff, hx]
          simp only [List.all_cons, List.all_nil, Bool.and_true] at hbd ⊢
          rw [hbd]; decide
        rw [hj0_ok k _ b hfd (by omega) hxd2, valOf_nv _ 10000 (by omega) hxd2]
        have e1 : nv ((b ++ (⟨#[48, 48]⟩ : ByteArray)).extract 0 2) = nv b * 10 := by
          unfold nv nvF
          rw [hx, hc]
          simp only [List.foldl_cons, List.foldl_nil]
          have : ((48 : UInt8).toNat : Int) = 48 := rfl
          omega
        rw [e1, hsum_cap _ _ hnn (by omega), show min (nv b * 10) 10000 = min (nv b) 1099511627777 * 10 by omega]
      · rw [if_neg h6]
        have hb2 : 2 - b.size = 0 := by omega
        have hx : (b ++ (⟨#[48, 48]⟩ : ByteArray)).extract 0 2 = b := by
          apply data_ext
          have hb3 : b.data.toList.take 2 = b.data.toList := List.take_of_length_le (by omega)
          simp [hb2, hb3]
        rw [hj0_ok k _ b hfd (by omega) (by rw [hx]; exact hbd), hx, valOf_nv b 10000 (by omega) hbd, hsum_cap _ _ hnn (by omega), show min (nv b) 10000 = min (nv b) 1099511627777 by omega]
    · rw [decide_eq_false h4, if_neg (by decide), hj0_err, if_pos]
      by_cases h5 : m = 0
      · exact .inr (.inl h5)
      · exact .inr (.inr (.inr (by omega)))
end Go.Proofs.YtgfbamddaepebaaDoor.PN
