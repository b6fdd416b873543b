/- Contracts of functions of the program and of its references, over the translation, for values that can be read as data: each call comes to what a Lean function says. Written by the kit's printer and a program of this session's, with hand-made contracts spliced in. -/
import Derived.Test.YtgfbamddaepebaaDoorPNx0
import Derived.Test.YtgfbamddaepebaaDoorPNx4
import Derived.Test.YtgfbamddaepebaaDoorPNx5
import Derived.Test.YtgfbamddaepebaaDoorPNx17
import Derived.Test.YtgfbamddaepebaaDoorPNx18
namespace Go.Proofs.YtgfbamddaepebaaDoor.PN
open Go.RowKit Go.Proofs.YtgfbamddaepebaaDoorW.PrintWords Go.Proofs.YtgfbamddaepebaaDoorW.PrintLast Go.Proofs.YtgfbamddaepebaaDoorW.PrintMore
set_option linter.unusedVariables false
set_option linter.unusedSimpArgs false

/-! ### groupcontrolref2_Hundredths: function 15 (by hand) -/
/-- How many digits stand at the begin of a text from place i on. -/
def digLen (l : List UInt8) : Nat := (l.takeWhile dgB).length
theorem digLen_le (l : List UInt8) : digLen l ≤ l.length := by
  unfold digLen
  exact (List.takeWhile_prefix dgB).length_le
theorem refDigits_l (s : ByteArray) (hs : s.size ≤ 9223372036854775806) : ∀ (n i k : Nat), s.size - i = n → i ≤ s.size → n < k → groupcontrolref2_Digits.l0 k s (i : Int) = some ((i + digLen (s.data.toList.drop i) : Nat) : Int)
  | 0, i, k, hn, hi, hk => by
    obtain ⟨k, rfl⟩ : ∃ m, k = m + 1 := ⟨k - 1, by omega⟩
    simp only [groupcontrolref2_Digits.l0]
    rw [if_neg (by omega), List.drop_eq_nil_of_le (by simp; show s.size ≤ i; omega)]
    simp [digLen]
  | n + 1, i, k, hn, hi, hk => by
    obtain ⟨k, rfl⟩ : ∃ m, k = m + 1 := ⟨k - 1, by omega⟩
    have hlt : i < s.size := by omega
    have ih := refDigits_l s hs n (i + 1) k (by omega) (by omega) (by omega)
    have hb : bt s (i : Int) = ((s[i]'hlt).toNat : Int) := by simp [bt, hlt]
    have hw : wrap64 ((i : Int) + 1) = ((i + 1 : Nat) : Int) := by unfold wrap64; omega
    have hd := drop_at s i hlt
    simp only [groupcontrolref2_Digits.l0]
    rw [if_pos (by omega), if_pos (by omega), hb, hw, hd]
    unfold digLen
    rw [List.takeWhile_cons]
    by_cases h1 : 48 ≤ (s[i]'hlt).toNat
    · rw [if_pos (by omega)]
      by_cases h2 : (s[i]'hlt).toNat ≤ 57
      · rw [if_pos (by omega), if_pos ((dgB_iff _).2 ⟨h1, h2⟩), ih]
        unfold digLen
        simp only [List.length_cons]
        congr 2
        omega
      · rw [if_neg (by omega), if_neg (fun h => h2 ((dgB_iff _).1 h).2)]
        simp
    · rw [if_neg (by omega), if_neg (fun h => h1 ((dgB_iff _).1 h).1)]
      simp
theorem refDigits_f (s : ByteArray) (hs : s.size ≤ 9223372036854775806) : groupcontrolref2_Digits.f (s.size + 1) s = some ((digLen s.data.toList : Nat) : Int) := by
  have := refDigits_l s hs s.size 0 (s.size + 1) (by omega) (by omega) (by omega)
  simpa [groupcontrolref2_Digits.f] using this
theorem refValue_l (s : ByteArray) (hs : s.size ≤ 9223372036854775806) (hd : dgFrom s 0 = true) : ∀ (n i k : Nat), s.size - i = n → i ≤ s.size → n < k →
    groupcontrolref2_value.l0 k s ((s.data.toList.take i).foldl (valStep 1099511627777) 0) (i : Int) = some (valOf s 1099511627777)
  | 0, i, k, hn, hi, hk => by
    obtain ⟨k, rfl⟩ : ∃ m, k = m + 1 := ⟨k - 1, by omega⟩
    simp only [groupcontrolref2_value.l0]
    rw [if_neg (by omega), List.take_of_length_le (by simp; show s.size ≤ i; omega)]
    rfl
  | n + 1, i, k, hn, hi, hk => by
    obtain ⟨k, rfl⟩ : ∃ m, k = m + 1 := ⟨k - 1, by omega⟩
    have hlt : i < s.size := by omega
    have ih := refValue_l s hs hd n (i + 1) k (by omega) (by omega) (by omega)
    have hb : bt s (i : Int) = ((s[i]'hlt).toNat : Int) := by simp [bt, hlt]
    have hw : wrap64 ((i : Int) + 1) = ((i + 1 : Nat) : Int) := by unfold wrap64; omega
    have hc := dgFrom_all hd i hlt
    have hv := valOf_bd 1099511627777 (by omega) (s.data.toList.take i) 0 (fun c hc => by
      unfold dgFrom at hd
      rw [List.drop_zero, List.all_eq_true] at hd
      exact ((dgB_iff c).1 (hd c (List.mem_of_mem_take hc))).1) (by omega) (by omega)
    have hst := valOf_take s 1099511627777 i hlt
    rw [hst] at ih
    generalize (s.data.toList.take i).foldl (valStep 1099511627777) 0 = v at hv ih ⊢
    have hm : mn (wrap64 ((wrap64 (10 * v)) + ((((s[i]'hlt).toNat : Int) - 48) % 256))) 1099511627777 = valStep 1099511627777 v (s[i]'hlt) := by
      unfold mn valStep wrap64
      omega
    simp only [groupcontrolref2_value.l0]
    rw [if_pos (by omega), if_pos (by omega), hb, hw, hm]
    exact ih
theorem refValue_f (s : ByteArray) (hs : s.size ≤ 9223372036854775806) (hd : dgFrom s 0 = true) : groupcontrolref2_value.f (s.size + 1) s = some (valOf s 1099511627777) := by
  have := refValue_l s hs hd s.size 0 (s.size + 1) (by omega) (by omega) (by omega)
  simpa [groupcontrolref2_value.f] using this
theorem dig_calls (s : ByteArray) (hs : s.size ≤ 9223372036854775806) (w : World) : Calls Tryd.prog 26 #[.string s] w fun e w' => e = .returned (.int .i64 ((digLen s.data.toList : Nat) : Int)) ∧ Drawn0 w w' :=
  groupcontrolref2_Digits.calls (s.size + 1) s _ w (refDigits_f s hs)
theorem val_calls (s : ByteArray) (hs : s.size ≤ 9223372036854775806) (hd : dgFrom s 0 = true) (w : World) : Calls Tryd.prog 27 #[.string s] w fun e w' => e = .returned (.int .i64 (valOf s 1099511627777)) ∧ Below w.heap.size w w' :=
  groupcontrolref2_value.calls (s.size + 1) s _ w (refValue_f s hs hd)

/-- The text behind the point. -/
def hTail (s : ByteArray) (n : Nat) : ByteArray := (s.extract n s.size).extract 1 (s.size - n)
def hWhole (s : ByteArray) (n : Nat) : Int := 100 * min (valOf (s.extract 0 n) 1099511627777) 1000
def hSum (x : Int) : Int × Int := if 10000 < x then (0, 3) else (x, 0)
def refH (s : ByteArray) : Int × Int :=
  if s.data.toList = [109, 97, 120] then (10000, 0) else
  if digLen s.data.toList = 0 then (0, 2) else
  if s.size ≤ digLen s.data.toList then hSum (hWhole s (digLen s.data.toList)) else
  if s.data.toList.getD (digLen s.data.toList) 0 ≠ 46 ∨ digLen (hTail s (digLen s.data.toList)).data.toList = 0 ∨ 2 < digLen (hTail s (digLen s.data.toList)).data.toList ∨ digLen (hTail s (digLen s.data.toList)).data.toList + 1 ≠ s.size - digLen s.data.toList then (0, 2) else
  if digLen (hTail s (digLen s.data.toList)).data.toList = 1 then hSum (hWhole s (digLen s.data.toList) + valOf (hTail s (digLen s.data.toList)) 1099511627777 * 10) else
  hSum (hWhole s (digLen s.data.toList) + valOf (hTail s (digLen s.data.toList)) 1099511627777)
def groupcontrolref2_Hundredths.f (s : ByteArray) : Option (Int × Int) := if s.size ≤ 1000000 then some (refH s) else none
theorem digLen_all (l : List UInt8) : (l.take (digLen l)).all dgB = true := by
  have : l.take (l.takeWhile dgB).length = l.takeWhile dgB := (List.prefix_iff_eq_take.1 (List.takeWhile_prefix dgB)).symm
  unfold digLen
  rw [this]
  exact List.all_takeWhile
theorem front_dg (s : ByteArray) : dgFrom (s.extract 0 (digLen s.data.toList)) 0 = true := by
  unfold dgFrom
  rw [List.drop_zero]
  have : (s.extract 0 (digLen s.data.toList)).data.toList = s.data.toList.take (digLen s.data.toList) := by simp
  rw [this]
  exact digLen_all _
theorem whole_dg (s : ByteArray) (h : digLen s.data.toList = s.size) : dgFrom s 0 = true := by
  unfold dgFrom
  rw [List.drop_zero]
  have := digLen_all s.data.toList
  rwa [h, List.take_of_length_le (by rw [data_length]; exact Nat.le_refl _)] at this
theorem valOf_rg (s : ByteArray) (hd : dgFrom s 0 = true) : 0 ≤ valOf s 1099511627777 ∧ valOf s 1099511627777 ≤ 1099511627777 :=
  valOf_bd 1099511627777 (by omega) s.data.toList 0 (fun c hc => by
    unfold dgFrom at hd
    rw [List.drop_zero, List.all_eq_true] at hd
    exact ((dgB_iff c).1 (hd c hc)).1) (by omega) (by omega)
theorem valOf_len (s : ByteArray) (n : Nat) (hn : s.size ≤ n) (hd : dgFrom s 0 = true) : valOf s 1099511627777 ≤ 10 ^ n - 1 := by
  have key : ∀ (l : List UInt8) (v : Int) (m : Nat), l.all dgB = true → 0 ≤ v → v ≤ 10 ^ m - 1 → l.foldl (valStep 1099511627777) v ≤ 10 ^ (m + l.length) - 1 := by
    intro l
    induction l with
    | nil => intro v m _ h0 h1; simpa using h1
    | cons c l ih =>
      intro v m hl h0 h1
      simp only [List.all_cons, Bool.and_eq_true] at hl
      have hc := (dgB_iff c).1 hl.1
      have hp : (10 : Int) ^ (m + 1) = 10 * 10 ^ m := by rw [Int.pow_succ]; omega
      have := ih (valStep 1099511627777 v c) (m + 1) hl.2 (by unfold valStep; omega) (by unfold valStep; omega)
      simp only [List.foldl_cons, List.length_cons]
      rwa [show m + (l.length + 1) = m + 1 + l.length by omega]
  unfold dgFrom at hd
  rw [List.drop_zero] at hd
  have := key s.data.toList 0 0 hd (by omega) (by simp)
  have hl := data_length s
  have hm : (10 : Int) ^ (0 + s.data.toList.length) ≤ 10 ^ n := by
    have : (10 : Nat) ^ (0 + s.data.toList.length) ≤ 10 ^ n := Nat.pow_le_pow_right (by omega) (by omega)
    exact_mod_cast this
  unfold valOf
  omega
theorem rh_max (a0 : ByteArray) (w : World) (e1 : (a0.toList == [109, 97, 120]) = true) :
    Calls Tryd.prog 15 #[.string a0] w fun e w' => e = .returned (.tuple #[.int .i64 10000, .int .i64 0]) ∧ Below w.heap.size w w' := by
  go_enter Tryd.func15, Tryd.ntmps15
  go_wp2
  go_ret2
  exact ⟨rfl, Below.refl _ _⟩

set_option maxHeartbeats 2000000 in
theorem rh_none (a0 : ByteArray) (w : World) (e1 : (a0.toList == [109, 97, 120]) = false) (n : Nat) (c1 : Calls Tryd.prog 26 #[.string a0] w fun e w' => e = .returned (.int .i64 (n : Int)) ∧ Drawn0 w w') (e2 : ((n : Int) == 0) = true) :
    Calls Tryd.prog 15 #[.string a0] w fun e w' => e = .returned (.tuple #[.int .i64 0, .int .i64 2]) ∧ Below w.heap.size w w' := by
  go_enter Tryd.func15, Tryd.ntmps15
  go_wp2_with fail
  refine c1.mono ?_
  rintro e w1 ⟨rfl, hd1⟩
  have HD1 := Aside0.mk hd1.below
  clear hd1
  go_wp2
  go_ret2
  exact ⟨rfl, HD1.out⟩

set_option maxHeartbeats 2000000 in
theorem rh_whole_no (a0 : ByteArray) (w : World) (e1 : (a0.toList == [109, 97, 120]) = false) (n : Nat) (c1 : Calls Tryd.prog 26 #[.string a0] w fun e w' => e = .returned (.int .i64 (n : Int)) ∧ Drawn0 w w') (e2 : ((n : Int) == 0) = false) (hle : n ≤ a0.size) (hem : (a0.extract n a0.size).toList.isEmpty = true) (v : Int) (v0 : 0 ≤ v) (v1 : v ≤ 1099511627777) (cv : ∀ W, Calls Tryd.prog 27 #[.string (a0.extract 0 n)] W fun e w' => e = .returned (.int .i64 v) ∧ Below W.heap.size W w') (e3 : decide (10000 < 100 * min v 1000) = true) :
    Calls Tryd.prog 15 #[.string a0] w fun e w' => e = .returned (.tuple #[.int .i64 0, .int .i64 3]) ∧ Below w.heap.size w w' := by
  go_enter Tryd.func15, Tryd.ntmps15
  go_wp2_with fail
  refine c1.mono ?_
  rintro e w1 ⟨rfl, hd1⟩
  have HD1 := Aside0.mk hd1.below
  clear hd1
  go_wp2_with fail
  refine (cv _).mono ?_
  rintro e w2 ⟨rfl, hd2⟩
  have HD2 := Aside0.mk (HD1.out.trans (hd2.mono HD1.out.size))
  clear hd2 HD1
  go_wp2
  go_ret2
  exact ⟨rfl, HD2.out⟩

set_option maxHeartbeats 2000000 in
theorem rh_whole (a0 : ByteArray) (w : World) (e1 : (a0.toList == [109, 97, 120]) = false) (n : Nat) (c1 : Calls Tryd.prog 26 #[.string a0] w fun e w' => e = .returned (.int .i64 (n : Int)) ∧ Drawn0 w w') (e2 : ((n : Int) == 0) = false) (hle : n ≤ a0.size) (hem : (a0.extract n a0.size).toList.isEmpty = true) (v : Int) (v0 : 0 ≤ v) (v1 : v ≤ 1099511627777) (cv : ∀ W, Calls Tryd.prog 27 #[.string (a0.extract 0 n)] W fun e w' => e = .returned (.int .i64 v) ∧ Below W.heap.size W w') (e3 : decide (10000 < 100 * min v 1000) = false) :
    Calls Tryd.prog 15 #[.string a0] w fun e w' => e = .returned (.tuple #[.int .i64 (100 * min v 1000), .int .i64 0]) ∧ Below w.heap.size w w' := by
  go_enter Tryd.func15, Tryd.ntmps15
  go_wp2_with fail
  refine c1.mono ?_
  rintro e w1 ⟨rfl, hd1⟩
  have HD1 := Aside0.mk hd1.below
  clear hd1
  go_wp2_with fail
  refine (cv _).mono ?_
  rintro e w2 ⟨rfl, hd2⟩
  have HD2 := Aside0.mk (HD1.out.trans (hd2.mono HD1.out.size))
  clear hd2 HD1
  go_wp2
  go_ret2
  exact ⟨rfl, HD2.out⟩

set_option maxHeartbeats 2000000 in
theorem rh_point (a0 : ByteArray) (w : World) (e1 : (a0.toList == [109, 97, 120]) = false) (n : Nat) (c1 : Calls Tryd.prog 26 #[.string a0] w fun e w' => e = .returned (.int .i64 (n : Int)) ∧ Drawn0 w w') (e2 : ((n : Int) == 0) = false) (v : Int) (v0 : 0 ≤ v) (v1 : v ≤ 1099511627777) (cv : ∀ W, Calls Tryd.prog 27 #[.string (a0.extract 0 n)] W fun e w' => e = .returned (.int .i64 v) ∧ Below W.heap.size W w') (hlt : n < a0.size) (hs : a0.size ≤ 1000000) (hne : (a0.extract n a0.size).toList.isEmpty = false) (m : Nat) (c2 : ∀ W, Calls Tryd.prog 26 #[.string ((a0.extract n a0.size).extract 1 (a0.size - n))] W fun e w' => e = .returned (.int .i64 (m : Int)) ∧ Drawn0 W w') (c : UInt8) (hc : ∀ h, ((a0.extract n a0.size)[0]'h) = c) (e4 : ((c.toNat : Int) != 46) = true) :
    Calls Tryd.prog 15 #[.string a0] w fun e w' => e = .returned (.tuple #[.int .i64 0, .int .i64 2]) ∧ Below w.heap.size w w' := by
  go_enter Tryd.func15, Tryd.ntmps15
  go_wp2_with fail
  refine c1.mono ?_
  rintro e w1 ⟨rfl, hd1⟩
  have HD1 := Aside0.mk hd1.below
  clear hd1
  go_wp2_with fail
  refine (cv _).mono ?_
  rintro e w2 ⟨rfl, hd2⟩
  have HD2 := Aside0.mk (HD1.out.trans (hd2.mono HD1.out.size))
  clear hd2 HD1
  go_wp2_with fail
  refine (c2 _).mono ?_
  rintro e w3 ⟨rfl, hd3⟩
  have HD3 := Aside0.mk (HD2.out.trans (hd3.below.mono HD2.out.size))
  clear hd3 HD2
  go_wp2
  go_ret2
  exact ⟨rfl, HD3.out⟩

set_option maxHeartbeats 2000000 in
theorem rh_short (a0 : ByteArray) (w : World) (e1 : (a0.toList == [109, 97, 120]) = false) (n : Nat) (c1 : Calls Tryd.prog 26 #[.string a0] w fun e w' => e = .returned (.int .i64 (n : Int)) ∧ Drawn0 w w') (e2 : ((n : Int) == 0) = false) (v : Int) (v0 : 0 ≤ v) (v1 : v ≤ 1099511627777) (cv : ∀ W, Calls Tryd.prog 27 #[.string (a0.extract 0 n)] W fun e w' => e = .returned (.int .i64 v) ∧ Below W.heap.size W w') (hlt : n < a0.size) (hs : a0.size ≤ 1000000) (hne : (a0.extract n a0.size).toList.isEmpty = false) (m : Nat) (c2 : ∀ W, Calls Tryd.prog 26 #[.string ((a0.extract n a0.size).extract 1 (a0.size - n))] W fun e w' => e = .returned (.int .i64 (m : Int)) ∧ Drawn0 W w') (c : UInt8) (hc : ∀ h, ((a0.extract n a0.size)[0]'h) = c) (e4 : ((c.toNat : Int) != 46) = false) (e5 : decide ((m : Int) < 1) = true) :
    Calls Tryd.prog 15 #[.string a0] w fun e w' => e = .returned (.tuple #[.int .i64 0, .int .i64 2]) ∧ Below w.heap.size w w' := by
  go_enter Tryd.func15, Tryd.ntmps15
  go_wp2_with fail
  refine c1.mono ?_
  rintro e w1 ⟨rfl, hd1⟩
  have HD1 := Aside0.mk hd1.below
  clear hd1
  go_wp2_with fail
  refine (cv _).mono ?_
  rintro e w2 ⟨rfl, hd2⟩
  have HD2 := Aside0.mk (HD1.out.trans (hd2.mono HD1.out.size))
  clear hd2 HD1
  go_wp2_with fail
  refine (c2 _).mono ?_
  rintro e w3 ⟨rfl, hd3⟩
  have HD3 := Aside0.mk (HD2.out.trans (hd3.below.mono HD2.out.size))
  clear hd3 HD2
  go_wp2
  go_ret2
  exact ⟨rfl, HD3.out⟩

set_option maxHeartbeats 2000000 in
theorem rh_long (a0 : ByteArray) (w : World) (e1 : (a0.toList == [109, 97, 120]) = false) (n : Nat) (c1 : Calls Tryd.prog 26 #[.string a0] w fun e w' => e = .returned (.int .i64 (n : Int)) ∧ Drawn0 w w') (e2 : ((n : Int) == 0) = false) (v : Int) (v0 : 0 ≤ v) (v1 : v ≤ 1099511627777) (cv : ∀ W, Calls Tryd.prog 27 #[.string (a0.extract 0 n)] W fun e w' => e = .returned (.int .i64 v) ∧ Below W.heap.size W w') (hlt : n < a0.size) (hs : a0.size ≤ 1000000) (hne : (a0.extract n a0.size).toList.isEmpty = false) (m : Nat) (c2 : ∀ W, Calls Tryd.prog 26 #[.string ((a0.extract n a0.size).extract 1 (a0.size - n))] W fun e w' => e = .returned (.int .i64 (m : Int)) ∧ Drawn0 W w') (c : UInt8) (hc : ∀ h, ((a0.extract n a0.size)[0]'h) = c) (e4 : ((c.toNat : Int) != 46) = false) (e5 : decide ((m : Int) < 1) = false) (e6 : decide (2 < (m : Int)) = true) :
    Calls Tryd.prog 15 #[.string a0] w fun e w' => e = .returned (.tuple #[.int .i64 0, .int .i64 2]) ∧ Below w.heap.size w w' := by
  go_enter Tryd.func15, Tryd.ntmps15
  go_wp2_with fail
  refine c1.mono ?_
  rintro e w1 ⟨rfl, hd1⟩
  have HD1 := Aside0.mk hd1.below
  clear hd1
  go_wp2_with fail
  refine (cv _).mono ?_
  rintro e w2 ⟨rfl, hd2⟩
  have HD2 := Aside0.mk (HD1.out.trans (hd2.mono HD1.out.size))
  clear hd2 HD1
  go_wp2_with fail
  refine (c2 _).mono ?_
  rintro e w3 ⟨rfl, hd3⟩
  have HD3 := Aside0.mk (HD2.out.trans (hd3.below.mono HD2.out.size))
  clear hd3 HD2
  go_wp2
  go_ret2
  exact ⟨rfl, HD3.out⟩

set_option maxHeartbeats 2000000 in
theorem rh_more (a0 : ByteArray) (w : World) (e1 : (a0.toList == [109, 97, 120]) = false) (n : Nat) (c1 : Calls Tryd.prog 26 #[.string a0] w fun e w' => e = .returned (.int .i64 (n : Int)) ∧ Drawn0 w w') (e2 : ((n : Int) == 0) = false) (v : Int) (v0 : 0 ≤ v) (v1 : v ≤ 1099511627777) (cv : ∀ W, Calls Tryd.prog 27 #[.string (a0.extract 0 n)] W fun e w' => e = .returned (.int .i64 v) ∧ Below W.heap.size W w') (hlt : n < a0.size) (hs : a0.size ≤ 1000000) (hne : (a0.extract n a0.size).toList.isEmpty = false) (m : Nat) (c2 : ∀ W, Calls Tryd.prog 26 #[.string ((a0.extract n a0.size).extract 1 (a0.size - n))] W fun e w' => e = .returned (.int .i64 (m : Int)) ∧ Drawn0 W w') (c : UInt8) (hc : ∀ h, ((a0.extract n a0.size)[0]'h) = c) (e4 : ((c.toNat : Int) != 46) = false) (e5 : decide ((m : Int) < 1) = false) (e6 : decide (2 < (m : Int)) = false) (hm : m ≤ 2) (e7 : ((m : Int) + 1 != ((a0.size - n : Nat) : Int)) = true) :
    Calls Tryd.prog 15 #[.string a0] w fun e w' => e = .returned (.tuple #[.int .i64 0, .int .i64 2]) ∧ Below w.heap.size w w' := by
  go_enter Tryd.func15, Tryd.ntmps15
  go_wp2_with fail
  refine c1.mono ?_
  rintro e w1 ⟨rfl, hd1⟩
  have HD1 := Aside0.mk hd1.below
  clear hd1
  go_wp2_with fail
  refine (cv _).mono ?_
  rintro e w2 ⟨rfl, hd2⟩
  have HD2 := Aside0.mk (HD1.out.trans (hd2.mono HD1.out.size))
  clear hd2 HD1
  go_wp2_with fail
  refine (c2 _).mono ?_
  rintro e w3 ⟨rfl, hd3⟩
  have HD3 := Aside0.mk (HD2.out.trans (hd3.below.mono HD2.out.size))
  clear hd3 HD2
  go_wp2
  go_ret2
  exact ⟨rfl, HD3.out⟩

set_option maxHeartbeats 2000000 in
theorem rh_one_no (a0 : ByteArray) (w : World) (e1 : (a0.toList == [109, 97, 120]) = false) (n : Nat) (c1 : Calls Tryd.prog 26 #[.string a0] w fun e w' => e = .returned (.int .i64 (n : Int)) ∧ Drawn0 w w') (e2 : ((n : Int) == 0) = false) (v : Int) (v0 : 0 ≤ v) (v1 : v ≤ 1099511627777) (cv : ∀ W, Calls Tryd.prog 27 #[.string (a0.extract 0 n)] W fun e w' => e = .returned (.int .i64 v) ∧ Below W.heap.size W w') (hlt : n < a0.size) (hs : a0.size ≤ 1000000) (hne : (a0.extract n a0.size).toList.isEmpty = false) (m : Nat) (c2 : ∀ W, Calls Tryd.prog 26 #[.string ((a0.extract n a0.size).extract 1 (a0.size - n))] W fun e w' => e = .returned (.int .i64 (m : Int)) ∧ Drawn0 W w') (c : UInt8) (hc : ∀ h, ((a0.extract n a0.size)[0]'h) = c) (e4 : ((c.toNat : Int) != 46) = false) (e5 : decide ((m : Int) < 1) = false) (e6 : decide (2 < (m : Int)) = false) (hm : m ≤ 2) (e7 : ((m : Int) + 1 != ((a0.size - n : Nat) : Int)) = false) (f : Int) (f0 : 0 ≤ f) (f1 : f ≤ 99) (cv2 : ∀ W, Calls Tryd.prog 27 #[.string ((a0.extract n a0.size).extract 1 (a0.size - n))] W fun e w' => e = .returned (.int .i64 f) ∧ Below W.heap.size W w') (e8 : ((m : Int) == 1) = true) (e9 : decide (10000 < 100 * min v 1000 + f * 10) = true) :
    Calls Tryd.prog 15 #[.string a0] w fun e w' => e = .returned (.tuple #[.int .i64 0, .int .i64 3]) ∧ Below w.heap.size w w' := by
  go_enter Tryd.func15, Tryd.ntmps15
  go_wp2_with fail
  refine c1.mono ?_
  rintro e w1 ⟨rfl, hd1⟩
  have HD1 := Aside0.mk hd1.below
  clear hd1
  go_wp2_with fail
  refine (cv _).mono ?_
  rintro e w2 ⟨rfl, hd2⟩
  have HD2 := Aside0.mk (HD1.out.trans (hd2.mono HD1.out.size))
  clear hd2 HD1
  go_wp2_with fail
  refine (c2 _).mono ?_
  rintro e w3 ⟨rfl, hd3⟩
  have HD3 := Aside0.mk (HD2.out.trans (hd3.below.mono HD2.out.size))
  clear hd3 HD2
  go_wp2_with fail
  refine (cv2 _).mono ?_
  rintro e w4 ⟨rfl, hd4⟩
  have HD4 := Aside0.mk (HD3.out.trans (hd4.mono HD3.out.size))
  clear hd4 HD3
  go_wp2
  go_ret2
  exact ⟨rfl, HD4.out⟩

set_option maxHeartbeats 2000000 in
theorem rh_one (a0 : ByteArray) (w : World) (e1 : (a0.toList == [109, 97, 120]) = false) (n : Nat) (c1 : Calls Tryd.prog 26 #[.string a0] w fun e w' => e = .returned (.int .i64 (n : Int)) ∧ Drawn0 w w') (e2 : ((n : Int) == 0) = false) (v : Int) (v0 : 0 ≤ v) (v1 : v ≤ 1099511627777) (cv : ∀ W, Calls Tryd.prog 27 #[.string (a0.extract 0 n)] W fun e w' => e = .returned (.int .i64 v) ∧ Below W.heap.size W w') (hlt : n < a0.size) (hs : a0.size ≤ 1000000) (hne : (a0.extract n a0.size).toList.isEmpty = false) (m : Nat) (c2 : ∀ W, Calls Tryd.prog 26 #[.string ((a0.extract n a0.size).extract 1 (a0.size - n))] W fun e w' => e = .returned (.int .i64 (m : Int)) ∧ Drawn0 W w') (c : UInt8) (hc : ∀ h, ((a0.extract n a0.size)[0]'h) = c) (e4 : ((c.toNat : Int) != 46) = false) (e5 : decide ((m : Int) < 1) = false) (e6 : decide (2 < (m : Int)) = false) (hm : m ≤ 2) (e7 : ((m : Int) + 1 != ((a0.size - n : Nat) : Int)) = false) (f : Int) (f0 : 0 ≤ f) (f1 : f ≤ 99) (cv2 : ∀ W, Calls Tryd.prog 27 #[.string ((a0.extract n a0.size).extract 1 (a0.size - n))] W fun e w' => e = .returned (.int .i64 f) ∧ Below W.heap.size W w') (e8 : ((m : Int) == 1) = true) (e9 : decide (10000 < 100 * min v 1000 + f * 10) = false) :
    Calls Tryd.prog 15 #[.string a0] w fun e w' => e = .returned (.tuple #[.int .i64 (100 * min v 1000 + f * 10), .int .i64 0]) ∧ Below w.heap.size w w' := by
  go_enter Tryd.func15, Tryd.ntmps15
  go_wp2_with fail
  refine c1.mono ?_
  rintro e w1 ⟨rfl, hd1⟩
  have HD1 := Aside0.mk hd1.below
  clear hd1
  go_wp2_with fail
  refine (cv _).mono ?_
  rintro e w2 ⟨rfl, hd2⟩
  have HD2 := Aside0.mk (HD1.out.trans (hd2.mono HD1.out.size))
  clear hd2 HD1
  go_wp2_with fail
  refine (c2 _).mono ?_
  rintro e w3 ⟨rfl, hd3⟩
  have HD3 := Aside0.mk (HD2.out.trans (hd3.below.mono HD2.out.size))
  clear hd3 HD2
  go_wp2_with fail
  refine (cv2 _).mono ?_
  rintro e w4 ⟨rfl, hd4⟩
  have HD4 := Aside0.mk (HD3.out.trans (hd4.mono HD3.out.size))
  clear hd4 HD3
  go_wp2
  go_ret2
  exact ⟨rfl, HD4.out⟩

set_option maxHeartbeats 2000000 in
theorem rh_two_no (a0 : ByteArray) (w : World) (e1 : (a0.toList == [109, 97, 120]) = false) (n : Nat) (c1 : Calls Tryd.prog 26 #[.string a0] w fun e w' => e = .returned (.int .i64 (n : Int)) ∧ Drawn0 w w') (e2 : ((n : Int) == 0) = false) (v : Int) (v0 : 0 ≤ v) (v1 : v ≤ 1099511627777) (cv : ∀ W, Calls Tryd.prog 27 #[.string (a0.extract 0 n)] W fun e w' => e = .returned (.int .i64 v) ∧ Below W.heap.size W w') (hlt : n < a0.size) (hs : a0.size ≤ 1000000) (hne : (a0.extract n a0.size).toList.isEmpty = false) (m : Nat) (c2 : ∀ W, Calls Tryd.prog 26 #[.string ((a0.extract n a0.size).extract 1 (a0.size - n))] W fun e w' => e = .returned (.int .i64 (m : Int)) ∧ Drawn0 W w') (c : UInt8) (hc : ∀ h, ((a0.extract n a0.size)[0]'h) = c) (e4 : ((c.toNat : Int) != 46) = false) (e5 : decide ((m : Int) < 1) = false) (e6 : decide (2 < (m : Int)) = false) (hm : m ≤ 2) (e7 : ((m : Int) + 1 != ((a0.size - n : Nat) : Int)) = false) (f : Int) (f0 : 0 ≤ f) (f1 : f ≤ 99) (cv2 : ∀ W, Calls Tryd.prog 27 #[.string ((a0.extract n a0.size).extract 1 (a0.size - n))] W fun e w' => e = .returned (.int .i64 f) ∧ Below W.heap.size W w') (e8 : ((m : Int) == 1) = false) (e9 : decide (10000 < 100 * min v 1000 + f) = true) :
    Calls Tryd.prog 15 #[.string a0] w fun e w' => e = .returned (.tuple #[.int .i64 0, .int .i64 3]) ∧ Below w.heap.size w w' := by
  go_enter Tryd.func15, Tryd.ntmps15
  go_wp2_with fail
  refine c1.mono ?_
  rintro e w1 ⟨rfl, hd1⟩
  have HD1 := Aside0.mk hd1.below
  clear hd1
  go_wp2_with fail
  refine (cv _).mono ?_
  rintro e w2 ⟨rfl, hd2⟩
  have HD2 := Aside0.mk (HD1.out.trans (hd2.mono HD1.out.size))
  clear hd2 HD1
  go_wp2_with fail
  refine (c2 _).mono ?_
  rintro e w3 ⟨rfl, hd3⟩
  have HD3 := Aside0.mk (HD2.out.trans (hd3.below.mono HD2.out.size))
  clear hd3 HD2
  go_wp2_with fail
  refine (cv2 _).mono ?_
  rintro e w4 ⟨rfl, hd4⟩
  have HD4 := Aside0.mk (HD3.out.trans (hd4.mono HD3.out.size))
  clear hd4 HD3
  go_wp2
  go_ret2
  exact ⟨rfl, HD4.out⟩

set_option maxHeartbeats 2000000 in
theorem rh_two (a0 : ByteArray) (w : World) (e1 : (a0.toList == [109, 97, 120]) = false) (n : Nat) (c1 : Calls Tryd.prog 26 #[.string a0] w fun e w' => e = .returned (.int .i64 (n : Int)) ∧ Drawn0 w w') (e2 : ((n : Int) == 0) = false) (v : Int) (v0 : 0 ≤ v) (v1 : v ≤ 1099511627777) (cv : ∀ W, Calls Tryd.prog 27 #[.string (a0.extract 0 n)] W fun e w' => e = .returned (.int .i64 v) ∧ Below W.heap.size W w') (hlt : n < a0.size) (hs : a0.size ≤ 1000000) (hne : (a0.extract n a0.size).toList.isEmpty = false) (m : Nat) (c2 : ∀ W, Calls Tryd.prog 26 #[.string ((a0.extract n a0.size).extract 1 (a0.size - n))] W fun e w' => e = .returned (.int .i64 (m : Int)) ∧ Drawn0 W w') (c : UInt8) (hc : ∀ h, ((a0.extract n a0.size)[0]'h) = c) (e4 : ((c.toNat : Int) != 46) = false) (e5 : decide ((m : Int) < 1) = false) (e6 : decide (2 < (m : Int)) = false) (hm : m ≤ 2) (e7 : ((m : Int) + 1 != ((a0.size - n : Nat) : Int)) = false) (f : Int) (f0 : 0 ≤ f) (f1 : f ≤ 99) (cv2 : ∀ W, Calls Tryd.prog 27 #[.string ((a0.extract n a0.size).extract 1 (a0.size - n))] W fun e w' => e = .returned (.int .i64 f) ∧ Below W.heap.size W w') (e8 : ((m : Int) == 1) = false) (e9 : decide (10000 < 100 * min v 1000 + f) = false) :
    Calls Tryd.prog 15 #[.string a0] w fun e w' => e = .returned (.tuple #[.int .i64 (100 * min v 1000 + f), .int .i64 0]) ∧ Below w.heap.size w w' := by
  go_enter Tryd.func15, Tryd.ntmps15
  go_wp2_with fail
  refine c1.mono ?_
  rintro e w1 ⟨rfl, hd1⟩
  have HD1 := Aside0.mk hd1.below
  clear hd1
  go_wp2_with fail
  refine (cv _).mono ?_
  rintro e w2 ⟨rfl, hd2⟩
  have HD2 := Aside0.mk (HD1.out.trans (hd2.mono HD1.out.size))
  clear hd2 HD1
  go_wp2_with fail
  refine (c2 _).mono ?_
  rintro e w3 ⟨rfl, hd3⟩
  have HD3 := Aside0.mk (HD2.out.trans (hd3.below.mono HD2.out.size))
  clear hd3 HD2
  go_wp2_with fail
  refine (cv2 _).mono ?_
  rintro e w4 ⟨rfl, hd4⟩
  have HD4 := Aside0.mk (HD3.out.trans (hd4.mono HD3.out.size))
  clear hd4 HD3
  go_wp2
  go_ret2
  exact ⟨rfl, HD4.out⟩


theorem hsum_calls {P : Program} {f : FuncId} {args : Array Value} {w : World} {R : World → Prop} (x : Int)
    (hno : decide (10000 < x) = true → Calls P f args w fun e w' => e = .returned (.tuple #[.int .i64 0, .int .i64 3]) ∧ R w')
    (hyes : decide (10000 < x) = false → Calls P f args w fun e w' => e = .returned (.tuple #[.int .i64 x, .int .i64 0]) ∧ R w') :
    Calls P f args w fun e w' => e = .returned (.tuple #[.int .i64 (hSum x).1, .int .i64 (hSum x).2]) ∧ R w' := by
  unfold hSum
  by_cases h : 10000 < x
  · rw [if_pos h]; exact hno (decide_eq_true h)
  · rw [if_neg h]; exact hyes (decide_eq_false h)
theorem groupcontrolref2_Hundredths.calls (a0 : ByteArray) (r1 r2 : Int) (w : World) (h : groupcontrolref2_Hundredths.f a0 = some (r1, r2)) :
    Calls Tryd.prog 15 #[.string a0] w fun e w' => e = .returned (.tuple #[.int .i64 r1, .int .i64 r2]) ∧ Below w.heap.size w w' := by
  unfold groupcontrolref2_Hundredths.f at h
  split at h
  case isFalse => cases h
  case isTrue hs =>
  have h := Option.some.inj h
  obtain ⟨rfl, rfl⟩ : (refH a0).1 = r1 ∧ (refH a0).2 = r2 := by rw [h]; exact ⟨rfl, rfl⟩
  clear h
  have hsz := data_length a0
  have hdl := digLen_le a0.data.toList
  have c1 := dig_calls a0 (by omega) w
  unfold refH
  by_cases h1 : a0.data.toList = [109, 97, 120]
  · rw [if_pos h1]
    exact rh_max a0 w (by rw [ba_toList, h1]; rfl)
  rw [if_neg h1]
  have e1 : (a0.toList == [109, 97, 120]) = false := by rw [ba_toList]; simpa using h1
  have hfd := front_dg a0
  generalize hn : digLen a0.data.toList = n at c1 hdl hfd ⊢
  by_cases h2 : n = 0
  · rw [if_pos h2]
    exact rh_none a0 w e1 n c1 (by simpa using h2)
  rw [if_neg h2]
  have e2 : ((n : Int) == 0) = false := by simpa using h2
  have hfs : (a0.extract 0 n).size = n := by simp; omega
  have hv := valOf_rg _ hfd
  have cv := fun W => val_calls (a0.extract 0 n) (by omega) hfd W
  unfold hWhole
  generalize valOf (a0.extract 0 n) 1099511627777 = v at hv cv ⊢
  by_cases h3 : a0.size ≤ n
  · rw [if_pos h3]
    have hem : (a0.extract n a0.size).toList.isEmpty = true := by
      rw [ba_toList]
      have : (a0.extract n a0.size).data.toList.length = 0 := by rw [data_length]; simp; omega
      simpa using List.eq_nil_of_length_eq_zero this
    exact hsum_calls _ (fun e => rh_whole_no a0 w e1 n c1 e2 (by omega) hem v hv.1 hv.2 cv e) (fun e => rh_whole a0 w e1 n c1 e2 (by omega) hem v hv.1 hv.2 cv e)
  rw [if_neg h3]
  have hlt : n < a0.size := by omega
  have hne : (a0.extract n a0.size).toList.isEmpty = false := by
    rw [ba_toList]
    have : (a0.extract n a0.size).data.toList.length = a0.size - n := by rw [data_length]; simp
    cases hx : (a0.extract n a0.size).data.toList with
    | nil => rw [hx] at this; simp at this; omega
    | cons => rfl
  have hts : (hTail a0 n).size = a0.size - n - 1 := by unfold hTail; simp
  have hc : ∀ h, ((a0.extract n a0.size)[0]'h) = a0.data.toList.getD n 0 := fun h => by
    have h1 : ((a0.extract n a0.size)[0]'h) = (a0.extract n a0.size).data.toList[0]'(by rw [data_length]; exact h) := rfl
    rw [h1]
    simp [List.getD_eq_getElem?_getD, List.getElem?_eq_getElem (show n < a0.data.toList.length by omega)]
  generalize a0.data.toList.getD n 0 = c at hc ⊢
  have c2 := fun W => dig_calls (hTail a0 n) (by omega) W
  have hml := digLen_le (hTail a0 n).data.toList
  rw [data_length] at hml
  have hmd := whole_dg (hTail a0 n)
  generalize hm : digLen (hTail a0 n).data.toList = m at c2 hml hmd ⊢
  by_cases h4 : c ≠ 46
  · rw [if_pos (.inl h4)]
    exact rh_point a0 w e1 n c1 e2 v hv.1 hv.2 cv hlt hs hne m c2 c hc (by
      rw [bne_iff_ne]
      intro e
      exact h4 (UInt8.toNat_inj.1 (by show c.toNat = 46; omega)))
  have h4 : c = 46 := Classical.not_not.1 h4
  subst h4
  have e4 : (((46 : UInt8).toNat : Int) != 46) = false := by decide
  by_cases h5 : m = 0
  · rw [if_pos (.inr (.inl h5))]
    exact rh_short a0 w e1 n c1 e2 v hv.1 hv.2 cv hlt hs hne m c2 _ hc e4 (decide_eq_true (by omega))
  have e5 : decide ((m : Int) < 1) = false := decide_eq_false (by omega)
  by_cases h6 : 2 < m
  · rw [if_pos (.inr (.inr (.inl h6)))]
    exact rh_long a0 w e1 n c1 e2 v hv.1 hv.2 cv hlt hs hne m c2 _ hc e4 e5 (decide_eq_true (by omega))
  have e6 : decide (2 < (m : Int)) = false := decide_eq_false (by omega)
  by_cases h7 : m + 1 ≠ a0.size - n
  · rw [if_pos (.inr (.inr (.inr h7)))]
    exact rh_more a0 w e1 n c1 e2 v hv.1 hv.2 cv hlt hs hne m c2 _ hc e4 e5 e6 (by omega) (by rw [bne_iff_ne]; omega)
  have h7 : m + 1 = a0.size - n := Classical.not_not.1 h7
  have e7 : ((m : Int) + 1 != ((a0.size - n : Nat) : Int)) = false := by rw [bne_eq_false_iff_eq]; omega
  rw [if_neg (by
    rintro (h | h | h | h)
    · exact h rfl
    all_goals omega)]
  have hdt := hmd (by omega)
  have hf := valOf_rg _ hdt
  have hf2 := valOf_len (hTail a0 n) 2 (by omega) hdt
  have cv2 := fun W => val_calls (hTail a0 n) (by omega) hdt W
  generalize valOf (hTail a0 n) 1099511627777 = f at hf hf2 cv2 ⊢
  have hf2 : f ≤ 99 := by simpa using hf2
  by_cases h8 : m = 1
  · rw [if_pos h8]
    have e8 : ((m : Int) == 1) = true := by rw [beq_iff_eq]; omega
    exact hsum_calls _ (fun e => rh_one_no a0 w e1 n c1 e2 v hv.1 hv.2 cv hlt hs hne m c2 _ hc e4 e5 e6 (by omega) e7 f hf.1 hf2 cv2 e8 e) (fun e => rh_one a0 w e1 n c1 e2 v hv.1 hv.2 cv hlt hs hne m c2 _ hc e4 e5 e6 (by omega) e7 f hf.1 hf2 cv2 e8 e)
  · rw [if_neg h8]
    have e8 : ((m : Int) == 1) = false := by rw [beq_eq_false_iff_ne]; omega
    exact hsum_calls _ (fun e => rh_two_no a0 w e1 n c1 e2 v hv.1 hv.2 cv hlt hs hne m c2 _ hc e4 e5 e6 (by omega) e7 f hf.1 hf2 cv2 e8 e) (fun e => rh_two a0 w e1 n c1 e2 v hv.1 hv.2 cv hlt hs hne m c2 _ hc e4 e5 e6 (by omega) e7 f hf.1 hf2 cv2 e8 e)

end Go.Proofs.YtgfbamddaepebaaDoor.PN
