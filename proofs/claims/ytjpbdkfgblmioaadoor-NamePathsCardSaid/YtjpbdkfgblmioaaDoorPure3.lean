/- The reference's Valid, Split and Join come to the same plain functions. -/
import Derived.Test.YtjpbdkfgblmioaaDoorPure2
import Derived.Test.YtjpbdkfgblmioaaDoorPAx20
import Derived.Test.YtjpbdkfgblmioaaDoorPAx21
import Derived.Test.YtjpbdkfgblmioaaDoorPAx22
import Derived.Test.YtjpbdkfgblmioaaDoorPAx23
namespace Go.Proofs.YtjpbdkfgblmioaaDoor.PA
open Go.RowKit Go.Proofs.YtjpbdkfgblmioaaDoorW.PrintWords Go.Proofs.YtjpbdkfgblmioaaDoorW.PrintLast Go.Proofs.YtjpbdkfgblmioaaDoorW.PrintMore

theorem bt_nat (s : ByteArray) (j : Nat) (h : j < s.size) : bt s (j : Int) = ((s[j].toNat : Nat) : Int) := by
  simp [bt, h]
theorem nest_if (c : Int) (R : Option Bool) : (if c ≥ 97 then (if c ≤ 122 then R else (if c ≥ 65 then (if c ≤ 90 then R else (if c ≥ 48 then (if c ≤ 57 then R else (if c = 95 then R else (if c = 45 then R else (some false)))) else (if c = 95 then R else (if c = 45 then R else (some false))))) else (if c ≥ 48 then (if c ≤ 57 then R else (if c = 95 then R else (if c = 45 then R else (some false)))) else (if c = 95 then R else (if c = 45 then R else (some false)))))) else (if c ≥ 65 then (if c ≤ 90 then R else (if c ≥ 48 then (if c ≤ 57 then R else (if c = 95 then R else (if c = 45 then R else (some false)))) else (if c = 95 then R else (if c = 45 then R else (some false))))) else (if c ≥ 48 then (if c ≤ 57 then R else (if c = 95 then R else (if c = 45 then R else (some false)))) else (if c = 95 then R else (if c = 45 then R else (some false)))))) =
    if (97 ≤ c ∧ c ≤ 122) ∨ (65 ≤ c ∧ c ≤ 90) ∨ (48 ≤ c ∧ c ≤ 57) ∨ c = 95 ∨ c = 45 then R else some false := by
  repeat' split
  all_goals first | rfl | (exfalso; omega)
theorem inner_iff (n : Nat) : innerB n = true ↔ ((97 ≤ (n : Int) ∧ (n : Int) ≤ 122) ∨ (65 ≤ (n : Int) ∧ (n : Int) ≤ 90) ∨ (48 ≤ (n : Int) ∧ (n : Int) ≤ 57) ∨ (n : Int) = 95 ∨ (n : Int) = 45) := by
  unfold innerB
  simp only [Bool.or_eq_true, Bool.and_eq_true, decide_eq_true_eq, beq_iff_eq]
  omega
theorem refValid_loop (s : ByteArray) (hs : s.size ≤ 1000) : ∀ (n i k : Nat), i + n = s.size → n + 1 ≤ k → groupcontrolref1_Valid.l0 k s (i : Int) = some (inFrom s i)
  | 0, i, k, hi, hk => by
    obtain ⟨k, rfl⟩ : ∃ j, k = j + 1 := ⟨k - 1, by omega⟩
    simp only [groupcontrolref1_Valid.l0]
    rw [if_neg (by omega), inFrom_end s i (by omega)]
  | n + 1, i, k, hi, hk => by
    obtain ⟨k, rfl⟩ : ∃ j, k = j + 1 := ⟨k - 1, by omega⟩
    have ih := refValid_loop s hs n (i + 1) k (by omega) (by omega)
    have hlt : i < s.size := by omega
    have hw : wrap64 ((i : Int) + 1) = ((i + 1 : Nat) : Int) := by rw [wrapS _ (by omega) (by omega)]; rfl
    simp only [groupcontrolref1_Valid.l0]
    rw [if_pos (by omega), if_pos (by omega), nest_if, hw, ih, bt_nat s i hlt, inFrom_step s i hlt]
    cases hb : innerB s[i].toNat with
    | true => rw [if_pos ((inner_iff _).1 hb)]; rfl
    | false =>
      rw [if_neg (fun h => by rw [(inner_iff _).2 h] at hb; cases hb)]; rfl
theorem refValid (s : ByteArray) (k : Nat) (hk : 40 ≤ k) : groupcontrolref1_Valid.f k s = some (vB s) := by
  obtain ⟨k, rfl⟩ : ∃ j, k = j + 1 := ⟨k - 1, by omega⟩
  unfold groupcontrolref1_Valid.f vB
  have hT : groupcontrolref1_Valid.j0 (k + 1) s true = some false := by
    simp only [groupcontrolref1_Valid.j0]; rw [if_pos trivial]
  have hF : groupcontrolref1_Valid.j0 (k + 1) s false = groupcontrolref1_Valid.l0 k s 0 := by
    simp only [groupcontrolref1_Valid.j0]; rw [if_neg (by decide)]
  by_cases h0 : s.size = 0
  · rw [if_pos (by omega), hT, decide_eq_false (show ¬ 0 < s.size by omega)]; simp
  · rw [if_neg (by omega), decide_eq_true (show 0 < s.size by omega)]
    by_cases h1 : s.size ≤ 32
    · rw [if_neg (by omega), if_pos (by omega), decide_eq_true h1]
      cases hb : bt s 0 == 45 with
      | true => rw [hT]; simp [bne, hb]
      | false =>
        rw [hF]
        have := refValid_loop s (by omega) s.size 0 k (by omega) (by omega)
        rw [show ((0 : Nat) : Int) = 0 from rfl] at this
        rw [this]; simp [bne, hb]
    · rw [if_pos (by omega), hT, decide_eq_false h1]; simp
def pre (w : List UInt8) : List (List UInt8) → List (List UInt8)
  | [] => []
  | v :: vs => (w ++ v) :: vs
def fin (done parts : List ByteArray) : List ByteArray × Int :=
  if parts.any (fun s => !vB s) then ([], 2) else if 8 < done.length + parts.length then ([], 7) else (done ++ parts, 0)
theorem pre_nil (l : List (List UInt8)) : pre [] l = l := by cases l <;> rfl
theorem fin_cons (done ps : List ByteArray) (p : ByteArray) (h : vB p = true) : fin done (p :: ps) = fin (done ++ [p]) ps := by
  unfold fin
  rw [List.any_cons, h, Bool.not_true, Bool.false_or, List.append_assoc, List.length_append, List.length_cons, List.length_singleton, List.singleton_append, show done.length + (ps.length + 1) = done.length + 1 + ps.length by omega]
theorem fin_bad (done ps : List ByteArray) (p : ByteArray) (h : vB p = false) : fin done (p :: ps) = ([], 2) := by
  unfold fin
  rw [List.any_cons, h]; rfl
theorem refSplit_loop (s : ByteArray) (hs : s.size ≤ 1000) : ∀ (n i k : Nat) (done : List ByteArray) (word : List UInt8), i + n = s.size → 2 * n + 60 ≤ k → done.length ≤ i → word.length ≤ i →
    groupcontrolref1_Split.l0 k s done (mkB word) (i : Int) = some (fin done ((pre word (sp 47 (s.data.toList.drop i))).map mkB))
  | 0, i, k, done, word, hi, hk, hd, hw0 => by
    obtain ⟨k, rfl⟩ : ∃ j, k = j + 1 + 1 := ⟨k - 2, by omega⟩
    have hl := size_len s
    have hw : wrap64 ((i : Int) + 1) = ((i + 1 : Nat) : Int) := by rw [wrapS _ (by omega) (by omega)]; rfl
    have hv := refValid (mkB word) k (by omega)
    have hdr : s.data.toList.drop i = [] := List.drop_eq_nil_of_le (by omega)
    have hend : ∀ d : List ByteArray, groupcontrolref1_Split.l0 k s d (⟨#[]⟩ : ByteArray) ((i + 1 : Nat) : Int) = if 8 < d.length then some ([], 7) else some (d, 0) := by
      intro d
      obtain ⟨k, rfl⟩ : ∃ j, k = j + 1 := ⟨k - 1, by omega⟩
      simp only [groupcontrolref1_Split.l0]
      rw [if_neg (by omega)]
      by_cases h : 8 < d.length
      · rw [if_pos (by omega), if_pos h]
      · rw [if_neg (by omega), if_neg h]
    rw [hdr]
    show _ = some (fin done [mkB (word ++ [])])
    rw [List.append_nil]
    simp only [groupcontrolref1_Split.l0]
    rw [if_pos (by omega), if_neg (by omega)]
    simp only [groupcontrolref1_Split.j2]
    rw [if_neg (show ¬ (false = true) by decide), hv, Option.bind_some]
    cases h : vB (mkB word) with
    | true =>
      rw [if_pos rfl, if_pos (by omega), hw, hend, fin_cons _ _ _ h]
      unfold fin
      rw [List.any_nil, if_neg (show ¬ (false = true) by decide), List.length_append, List.length_nil, List.append_nil, List.length_singleton, Nat.add_zero]
      split <;> rfl
    | false => rw [if_neg (by decide), fin_bad _ _ _ h]
  | n + 1, i, k, done, word, hi, hk, hd, hw0 => by
    obtain ⟨k, rfl⟩ : ∃ j, k = j + 1 + 1 := ⟨k - 2, by omega⟩
    have hl := size_len s
    have hlt : i < s.size := by omega
    have hw : wrap64 ((i : Int) + 1) = ((i + 1 : Nat) : Int) := by rw [wrapS _ (by omega) (by omega)]; rfl
    have hv := refValid (mkB word) k (by omega)
    have hdr : s.data.toList.drop i = s[i] :: s.data.toList.drop (i + 1) := by
      rw [List.drop_eq_getElem_cons (by simpa using hlt)]; rfl
    have hbt := bt_nat s i hlt
    rw [hdr]
    simp only [groupcontrolref1_Split.l0]
    rw [if_pos (by omega), if_pos (by omega), if_pos (by omega), hbt]
    by_cases hc : s[i] = 47
    · have e : (((s[i].toNat : Nat) : Int) != 47) = false := by rw [hc]; rfl
      have ih := refSplit_loop s hs n (i + 1) k (done ++ [mkB word]) [] (by omega) (by omega) (by simp; omega) (by simp)
      rw [e, hc]
      simp only [groupcontrolref1_Split.j2]
      rw [if_neg (show ¬ (false = true) by decide), hv, Option.bind_some]
      have esp : sp 47 ((47 : UInt8) :: s.data.toList.drop (i + 1)) = [] :: sp 47 (s.data.toList.drop (i + 1)) := by rw [sp, if_pos rfl]
      rw [esp]
      show _ = some (fin done (mkB (word ++ []) :: (sp 47 (s.data.toList.drop (i + 1))).map mkB))
      rw [List.append_nil]
      rw [pre_nil] at ih
      cases h : vB (mkB word) with
      | true =>
        rw [if_pos rfl, if_pos (by omega), hw, fin_cons _ _ _ h]
        exact ih
      | false => rw [if_neg (by decide), fin_bad _ _ _ h]
    · have e : (((s[i].toNat : Nat) : Int) != 47) = true := by
        rw [bne_iff_ne]
        intro h
        exact hc (UInt8.toNat_inj.1 (show s[i].toNat = (47 : UInt8).toNat by have : (47 : UInt8).toNat = 47 := rfl; omega))
      have ih := refSplit_loop s hs n (i + 1) k done (word ++ [s[i]]) (by omega) (by omega) (by omega) (by simp; omega)
      rw [e]
      simp only [groupcontrolref1_Split.j2]
      have hx : s.extract ((i : Int)).toNat (((i + 1 : Nat) : Int)).toNat = mkB [s[i]] := by
        apply data_inj
        rw [data_mkB]
        simp only [Int.toNat_natCast]
        have : (s.extract i (i + 1)).data.toList = (s.data.toList.drop i).take 1 := by simp
        rw [this, hdr]; rfl
      have hz1 : (mkB word).size = word.length := mkB_size word
      have hz2 : (mkB [s[i]]).size = 1 := mkB_size [s[i]]
      have hap : mkB word ++ mkB [s[i]] = mkB (word ++ [s[i]]) := by
        apply data_inj
        rw [data_mkB]
        simp [mkB]
      rw [if_pos trivial, hw, if_pos (by omega), if_pos (by omega), if_pos (by omega), hx, if_pos (by omega), hap, ih, sp_cons 47 s[i] _ hc]
      cases hsp : sp 47 (s.data.toList.drop (i + 1)) with
      | nil => exact absurd hsp (sp_ne 47 _)
      | cons v vs => simp [pre]
theorem refSplit (s : ByteArray) (hs : s.size ≤ 1000) (k : Nat) (hk : 3000 ≤ k) : groupcontrolref1_Split.f k s = some (splitOf s) := by
  obtain ⟨k, rfl⟩ : ∃ j, k = j + 1 := ⟨k - 1, by omega⟩
  have hl := size_len s
  have hT : groupcontrolref1_Split.j0 (k + 1) s true = some ([], 2) := by
    simp only [groupcontrolref1_Split.j0]; rw [if_pos trivial]
  unfold groupcontrolref1_Split.f splitOf splitL
  rw [ba_toList]
  cases hd : s.data.toList with
  | nil => rw [if_pos rfl, hT]
  | cons c r =>
    rw [hd, List.length_cons] at hl
    have h0 : 0 < s.size := by omega
    have hbt := bt_nat s 0 h0
    have hc0 : s[0] = c := by
      have : s.data.toList[0]'(by rw [hd]; simp) = c := by simp [hd]
      exact this
    rw [if_neg (by simp), if_pos (by omega)]
    rw [show ((0 : Nat) : Int) = 0 from rfl] at hbt
    rw [hbt, hc0]
    dsimp only
    by_cases hc : c = 47
    · subst hc
      rw [show ((((47 : UInt8).toNat : Nat) : Int) != 47) = false from rfl, if_pos rfl]
      simp only [groupcontrolref1_Split.j0]
      rw [if_neg (show ¬ (false = true) by decide), ba_toList, hd]
      by_cases hr : r = []
      · subst hr
        rw [if_pos rfl, if_pos rfl]
      · rw [if_neg (by simpa using hr), if_neg hr]
        have := refSplit_loop s hs (s.size - 1) 1 k [] [] (by omega) (by omega) (by simp) (by simp)
        rw [hd, List.drop_succ_cons, List.drop_zero, pre_nil] at this
        rw [show (⟨#[]⟩ : ByteArray) = mkB [] from rfl, show (1 : Int) = ((1 : Nat) : Int) from rfl, this]
        unfold fin chkL
        rw [List.length_nil, Nat.zero_add, List.nil_append]
        split
        · rfl
        · split <;> rfl
    · have e : (((c.toNat : Nat) : Int) != 47) = true := by
        rw [bne_iff_ne]
        intro h
        exact hc (UInt8.toNat_inj.1 (show c.toNat = (47 : UInt8).toNat by have : (47 : UInt8).toNat = 47 := rfl; omega))
      rw [e, hT, if_neg hc]
def cat : List ByteArray → List UInt8
  | [] => []
  | s :: l => 47 :: (s.data.toList ++ cat l)
theorem cat_join : ∀ l : List ByteArray, l ≠ [] → cat l = joinL l
  | [], h => absurd rfl h
  | [a], _ => by simp [cat, joinL, Lib.join, List.intercalate]
  | a :: b :: l, _ => by
    have ih := cat_join (b :: l) (by simp)
    unfold cat
    rw [ih]
    unfold joinL
    show 47 :: (a.data.toList ++ 47 :: Lib.join ((b :: l).map (·.data.toList)) [47]) = 47 :: Lib.join (a.data.toList :: b.data.toList :: l.map (·.data.toList)) [47]
    rw [join_cons2]; rfl
theorem refJoin_loop (L : List ByteArray) (hL : L.length ≤ 100) : ∀ (l done : List ByteArray) (acc : List UInt8) (k : Nat), done ++ l = L → l.length + 60 ≤ k → acc.length ≤ 33 * done.length →
    groupcontrolref1_Join.l0 k L (mkB acc) (done.length : Int) = some (if l.any (fun s => !vB s) then (⟨#[]⟩, 2) else if 8 < L.length then (⟨#[]⟩, 7) else if acc ++ cat l = [] then (⟨#[47]⟩, 0) else (mkB (acc ++ cat l), 0))
  | [], done, acc, k, hl, hk, ha => by
    obtain ⟨k, rfl⟩ : ∃ j, k = j + 1 := ⟨k - 1, by omega⟩
    rw [List.append_nil] at hl
    subst hl
    simp only [groupcontrolref1_Join.l0]
    rw [if_neg (by omega), List.any_nil, if_neg (show ¬ (false = true) by decide)]
    show _ = some (if 8 < done.length then _ else if acc ++ [] = [] then _ else (mkB (acc ++ []), 0))
    rw [List.append_nil, ba_toList, data_mkB]
    by_cases h : 8 < done.length
    · rw [if_pos (by omega), if_pos h]
    · rw [if_neg (by omega), if_neg h]
      split <;> rfl
  | p :: l, done, acc, k, hl, hk, ha => by
    obtain ⟨k, rfl⟩ : ∃ j, k = j + 1 := ⟨k - 1, by omega⟩
    have hlen : done.length + (l.length + 1) = L.length := by rw [← hl]; simp
    have hw : wrap64 ((done.length : Int) + 1) = (((done ++ [p]).length : Nat) : Int) := by rw [wrapS _ (by omega) (by omega)]; simp
    have hp : rdOf ByteArray.empty L (done.length : Int) = p := by
      unfold rdOf
      rw [← hl, Int.toNat_natCast, List.getD_eq_getElem?_getD]; simp
    have hv := refValid p k (by simp at hk; omega)
    simp only [groupcontrolref1_Join.l0]
    rw [if_pos (by omega), if_pos (by omega), hp, hv, Option.bind_some, List.any_cons]
    cases h : vB p with
    | false => rw [if_neg (by decide)]; rfl
    | true =>
      have hz := (vB_size p h).2
      have hz1 : (mkB acc).size = acc.length := mkB_size acc
      have e47 : (⟨#[47]⟩ : ByteArray).size = 1 := rfl
      have hap : mkB acc ++ ((⟨#[47]⟩ : ByteArray) ++ p) = mkB (acc ++ (47 :: p.data.toList)) := by
        apply data_inj
        rw [data_mkB]
        simp [mkB]
      have hpl := size_len p
      have ih := refJoin_loop L hL l (done ++ [p]) (acc ++ (47 :: p.data.toList)) k (by rw [← hl]; simp) (by simp at hk; omega) (by
        rw [List.length_append, List.length_cons, List.length_append, List.length_singleton]; omega)
      rw [if_pos rfl, if_pos (by omega), if_pos (by rw [ByteArray.size_append]; omega), hap, hw, ih]
      show _ = some (if (false || l.any _) = true then _ else if 8 < L.length then _ else if acc ++ (47 :: (p.data.toList ++ cat l)) = [] then _ else (mkB (acc ++ (47 :: (p.data.toList ++ cat l))), 0))
      rw [Bool.false_or, List.append_assoc, List.cons_append]
theorem refJoin (l : List ByteArray) (hl : l.length ≤ 100) (k : Nat) (hk : 200 ≤ k) : groupcontrolref1_Join.f k l = some (joinOf l) := by
  unfold groupcontrolref1_Join.f
  have := refJoin_loop l hl l [] [] k rfl (by omega) (by simp)
  rw [show (⟨#[]⟩ : ByteArray) = mkB [] from rfl, show (0 : Int) = (([] : List ByteArray).length : Int) from rfl, this]
  unfold joinOf chkL
  rw [List.nil_append]
  split
  · rfl
  · split
    · rfl
    · rw [if_pos rfl]
      cases l with
      | nil => rfl
      | cons a l =>
        rw [if_neg (by simp [cat]), cat_join (a :: l) (by simp)]
theorem same_self (l : List ByteArray) (hl : l.length ≤ 10000) : ∀ (n i k : Nat), i + n = l.length → n + 1 ≤ k → groupcontrollaw1_same.l0 k l l (l.length : Int) (i : Int) = some true
  | 0, i, k, hi, hk => by
    obtain ⟨k, rfl⟩ : ∃ j, k = j + 1 := ⟨k - 1, by omega⟩
    simp only [groupcontrollaw1_same.l0]
    rw [if_neg (by omega)]
  | n + 1, i, k, hi, hk => by
    obtain ⟨k, rfl⟩ : ∃ j, k = j + 1 := ⟨k - 1, by omega⟩
    have ih := same_self l hl n (i + 1) k (by omega) (by omega)
    have hw : wrap64 ((i : Int) + 1) = ((i + 1 : Nat) : Int) := by rw [wrapS _ (by omega) (by omega)]; rfl
    simp only [groupcontrollaw1_same.l0]
    rw [if_pos (by omega), if_pos (by omega), if_pos (by omega), if_pos (by omega), if_pos trivial, hw]
    exact ih
theorem same_f (l : List ByteArray) (hl : l.length ≤ 10000) (k : Nat) (hk : l.length + 1 ≤ k) : groupcontrollaw1_same.f k l l = some true := by
  unfold groupcontrollaw1_same.f
  rw [if_pos rfl]
  exact same_self l hl l.length 0 k (by omega) hk
end Go.Proofs.YtjpbdkfgblmioaaDoor.PA
