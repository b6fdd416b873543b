/- Facts on paths: what Split, Join make of texts, as plain functions of lists of bytes, and that they undo each other. -/
import Derived.Test.YtjpbdkfgblmioaaDoorPAx13
namespace Go.Proofs.YtjpbdkfgblmioaaDoor.PA
open Go.RowKit Go.Proofs.YtjpbdkfgblmioaaDoorW.PrintWords Go.Proofs.YtjpbdkfgblmioaaDoorW.PrintLast Go.Proofs.YtjpbdkfgblmioaaDoorW.PrintMore

theorem size_len (s : ByteArray) : s.size = s.data.toList.length := by simp
theorem mkB_data (s : ByteArray) : mkB s.data.toList = s := rfl
theorem data_mkB (l : List UInt8) : (mkB l).data.toList = l := rfl
theorem mkB_size (l : List UInt8) : (mkB l).size = l.length := by rw [size_len, data_mkB]
theorem data_inj {a b : ByteArray} (h : a.data.toList = b.data.toList) : a = b := by rw [← mkB_data a, h, mkB_data]
/-- What a path stands for. -/
def splitL (l : List UInt8) : List ByteArray × Int :=
  match l with
  | [] => ([], 2)
  | c :: r => if c = 47 then (if r = [] then ([], 0) else if chkL ((sp 47 r).map mkB) = 0 then ((sp 47 r).map mkB, 0) else ([], chkL ((sp 47 r).map mkB))) else ([], 2)
def splitOf (s : ByteArray) : List ByteArray × Int := splitL s.data.toList
theorem sp_ne (c : UInt8) (l : List UInt8) : sp c l ≠ [] := by
  cases l with
  | nil => simp [sp]
  | cons b l =>
    unfold sp
    split
    · simp
    · split <;> simp
theorem sp_len (c : UInt8) : ∀ (l : List UInt8) (w : List UInt8), w ∈ sp c l → w.length ≤ l.length
  | [], w, h => by simp [sp] at h; simp [h]
  | b :: l, w, h => by
    have ih := sp_len c l
    unfold sp at h
    split at h
    · rcases List.mem_cons.1 h with rfl | h
      · simp
      · have := ih w h; simp; omega
    · split at h
      · rename_i w0 ws e
        rw [e] at ih
        rcases List.mem_cons.1 h with rfl | h
        · have := ih w0 (by simp); simp; omega
        · have := ih w (List.mem_cons_of_mem _ h); simp; omega
      · simp at h; subst h; simp
theorem sp_count (c : UInt8) : ∀ l : List UInt8, (sp c l).length ≤ l.length + 1
  | [] => by simp [sp]
  | b :: l => by
    have ih := sp_count c l
    unfold sp
    split
    · simpa using ih
    · split
      · rename_i w0 ws e
        rw [e] at ih
        simp at ih ⊢; omega
      · simp
theorem hasPrefix_slash (s : ByteArray) : stringslite_HasPrefix.f s (⟨#[47]⟩ : ByteArray) = some (decide (s.data.toList.head? = some 47)) := by
  unfold stringslite_HasPrefix.f
  have e1 : (⟨#[47]⟩ : ByteArray).size = 1 := rfl
  have hl := size_len s
  rw [e1]
  cases hd : s.data.toList with
  | nil =>
    rw [hd] at hl
    have hl : s.size = 0 := hl
    rw [if_neg (by omega)]
    rfl
  | cons b l =>
    rw [hd] at hl
    rw [if_pos (by simp at hl ⊢; omega), if_pos (by omega), if_pos (by simp at hl ⊢; omega)]
    have : (s.extract 0 ((1 : Nat) : Int).toNat).toList = [b] := by
      rw [ba_toList]
      simp [hd]
    rw [this]
    have h2 : (⟨#[47]⟩ : ByteArray).toList = [47] := by rw [ba_toList]
    rw [h2]
    by_cases hb : b = 47
    · subst hb; rfl
    · have e3 : ([b] == ([47] : List UInt8)) = false := by simpa using hb
      rw [e3]
      simp [hb]
theorem split_f (s : ByteArray) (hs : s.size ≤ 1000000) : name_Split.f s = some (splitOf s) := by
  unfold name_Split.f strings_CutPrefix.f stringslite_CutPrefix.f splitOf splitL
  have e1 : (⟨#[47]⟩ : ByteArray).size = 1 := rfl
  have hl := size_len s
  rw [hasPrefix_slash, Option.bind_some, e1]
  cases hd : s.data.toList with
  | nil =>
    rw [if_neg (by simp), Option.bind_some, Option.bind_some, if_neg (by simp)]
  | cons b l =>
    rw [hd] at hl
    simp only [List.length_cons] at hl
    by_cases hb : b = 47
    · subst hb
      have hx : (s.extract ((1 : Nat) : Int).toNat s.size).data.toList = l := by
        simp [hd]
        exact List.take_of_length_le (by omega)
      rw [if_pos (by simp), if_pos (by omega), if_pos (by omega), Option.bind_some, Option.bind_some]
      generalize s.extract ((1 : Nat) : Int).toNat s.size = x at hx ⊢
      have hxl := size_len x
      rw [hx] at hxl
      dsimp only
      rw [if_pos rfl, if_pos rfl, ba_toList, hx]
      by_cases h0 : l = []
      · rw [if_pos h0, if_pos h0]
      · rw [if_neg h0, if_neg h0]
        have e2 : strings_Split.f x (⟨#[47]⟩ : ByteArray) = some ((sp 47 l).map mkB) := by
          unfold strings_Split.f
          rw [← hx]
          show (if x.size < 4294967281 then _ else _) = _
          rw [if_pos (by omega)]
        rw [e2, Option.bind_some]
        unfold name_check.f
        rw [if_pos (by
          intro y hy
          obtain ⟨z, hz, rfl⟩ := List.mem_map.1 hy
          have := sp_len 47 l z hz
          rw [mkB_size]; omega), Option.bind_some]
        split <;> rfl
    · rw [if_neg (by simp [hb]), Option.bind_some, Option.bind_some, if_neg (by simp)]
      dsimp only
      rw [if_neg hb]
/-- The path of names. -/
def joinL (l : List ByteArray) : List UInt8 := 47 :: Lib.join (l.map (·.data.toList)) [47]
def joinOf (l : List ByteArray) : ByteArray × Int := if chkL l = 0 then (mkB (joinL l), 0) else (⟨#[]⟩, chkL l)
theorem chk0 (l : List ByteArray) (h : chkL l = 0) : (∀ s ∈ l, vB s = true) ∧ l.length ≤ 8 := by
  unfold chkL at h
  split at h
  · cases h
  · rename_i h1
    split at h
    · cases h
    · refine ⟨fun s hs => ?_, by omega⟩
      cases hv : vB s with
      | true => rfl
      | false => exact absurd (List.any_eq_true.2 ⟨s, hs, by simp [hv]⟩) h1
theorem chk_ok (l : List ByteArray) (h1 : ∀ s ∈ l, vB s = true) (h2 : l.length ≤ 8) : chkL l = 0 := by
  unfold chkL
  rw [if_neg, if_neg (by omega)]
  intro h
  obtain ⟨s, hs, hv⟩ := List.any_eq_true.1 h
  rw [h1 s hs] at hv
  cases hv
theorem vB_size (s : ByteArray) (h : vB s = true) : 0 < s.size ∧ s.size ≤ 32 := by
  unfold vB at h
  simp only [Bool.and_eq_true, decide_eq_true_eq] at h
  exact ⟨h.2.1.1, h.2.1.2⟩
theorem vB_slash (s : ByteArray) (h : vB s = true) : (47 : UInt8) ∉ s.data.toList := by
  unfold vB inFrom at h
  simp only [Bool.and_eq_true] at h
  intro hm
  have h1 := h.1
  rw [List.drop_zero, List.all_eq_true] at h1
  exact absurd (h1 _ hm) (by decide)
theorem join_cons2 (a b : List UInt8) (l : List (List UInt8)) : Lib.join (a :: b :: l) [47] = a ++ 47 :: Lib.join (b :: l) [47] := by
  show List.intercalate [47] (a :: b :: l) = _
  unfold Lib.join
  simp [List.intercalate]
theorem join_len (l : List ByteArray) (h : ∀ s ∈ l, s.size ≤ 32) : (Lib.join (l.map (·.data.toList)) [47]).length ≤ 33 * l.length := by
  induction l with
  | nil => simp [Lib.join, List.intercalate]
  | cons a l ih =>
    have ha := h a (by simp)
    rw [size_len] at ha
    have ih := ih (fun s hs => h s (by simp [hs]))
    cases l with
    | nil => simp [Lib.join, List.intercalate]; simp at ha; omega
    | cons b l =>
      rw [List.map_cons, List.map_cons, join_cons2]
      rw [List.map_cons] at ih
      simp only [List.length_append, List.length_cons] at ih ⊢
      simp at ha ih ⊢
      omega
theorem join_f (l : List ByteArray) (hs : ∀ s ∈ l, s.size ≤ 9223372036854775807) : name_Join.f l = some (joinOf l) := by
  unfold name_Join.f name_check.f joinOf
  rw [if_pos hs, Option.bind_some]
  by_cases h : chkL l = 0
  · rw [if_pos h, if_pos h]
    obtain ⟨h1, h2⟩ := chk0 l h
    have hj := join_len l (fun s hs => (vB_size s (h1 s hs)).2)
    have ed : (⟨#[47]⟩ : ByteArray).data.toList = [47] := rfl
    unfold strings_Join.f
    rw [ed, if_pos ⟨by omega, by omega⟩, Option.bind_some, if_pos (by rw [mkB_size]; omega)]
    rfl
  · rw [if_neg h, if_neg h]
theorem join_sp : ∀ l : List UInt8, Lib.join (sp 47 l) [47] = l
  | [] => by simp [sp, Lib.join, List.intercalate]
  | b :: l => by
    have ih := join_sp l
    unfold sp
    by_cases h : b = 47
    · subst h
      rw [if_pos rfl]
      cases hs : sp 47 l with
      | nil => exact absurd hs (sp_ne 47 l)
      | cons w ws => rw [join_cons2, ← hs, ih]; rfl
    · rw [if_neg h]
      cases hs : sp 47 l with
      | nil => exact absurd hs (sp_ne 47 l)
      | cons w ws =>
        rw [hs] at ih
        dsimp only
        cases ws with
        | nil => simp [Lib.join, List.intercalate] at ih ⊢; exact ih
        | cons v vs => rw [join_cons2] at ih ⊢; rw [← ih]; rfl
theorem sp_cons (c b : UInt8) (l : List UInt8) (h : b ≠ c) : sp c (b :: l) = match sp c l with | w :: ws => (b :: w) :: ws | [] => [[b]] := by rw [sp, if_neg h]; cases sp c l <;> rfl
theorem sp_word (w : List UInt8) (h : (47 : UInt8) ∉ w) : sp 47 w = [w] := by
  induction w with
  | nil => rfl
  | cons b w ih =>
    simp only [List.mem_cons, not_or] at h
    unfold sp
    rw [if_neg (Ne.symm h.1), ih h.2]
theorem sp_append (w : List UInt8) (h : (47 : UInt8) ∉ w) (r : List UInt8) : sp 47 (w ++ 47 :: r) = w :: sp 47 r := by
  induction w with
  | nil => simp [sp]
  | cons b w ih =>
    simp only [List.mem_cons, not_or] at h
    rw [List.cons_append]
    rw [sp_cons 47 b _ (Ne.symm h.1), ih h.2]
theorem sp_join : ∀ l : List (List UInt8), l ≠ [] → (∀ w ∈ l, (47 : UInt8) ∉ w) → sp 47 (Lib.join l [47]) = l
  | [], h, _ => absurd rfl h
  | [a], _, h => by
    have : Lib.join [a] [47] = a := by simp [Lib.join, List.intercalate]
    rw [this, sp_word a (h a (by simp))]
  | a :: b :: l, _, h => by
    rw [join_cons2, sp_append a (h a (by simp)), sp_join (b :: l) (by simp) (fun w hw => h w (List.mem_cons_of_mem _ hw))]
theorem map_mkB (l : List ByteArray) : (l.map (·.data.toList)).map mkB = l := by
  rw [List.map_map]
  conv => rhs; rw [← List.map_id l]
  apply List.map_congr_left
  intro x _; rfl
theorem map_data (l : List (List UInt8)) : (l.map mkB).map (·.data.toList) = l := by
  rw [List.map_map]
  conv => rhs; rw [← List.map_id l]
  apply List.map_congr_left
  intro x _; rfl
/-- The path of names is split into them. -/
theorem split_join (l : List ByteArray) (h : chkL l = 0) : splitOf (mkB (joinL l)) = (l, 0) := by
  obtain ⟨h1, h2⟩ := chk0 l h
  unfold splitOf
  rw [data_mkB]
  unfold joinL splitL
  dsimp only
  rw [if_pos rfl]
  cases l with
  | nil => rw [if_pos (by simp [Lib.join, List.intercalate])]
  | cons a l =>
    have hsp := sp_join ((a :: l).map (·.data.toList)) (by simp) (fun w hw => by
      obtain ⟨s, hs, rfl⟩ := List.mem_map.1 hw
      exact vB_slash s (h1 s hs))
    have hne : Lib.join ((a :: l).map (·.data.toList)) [47] ≠ [] := by
      intro e
      rw [e] at hsp
      have h3 : sp 47 [] = [[]] := rfl
      rw [h3] at hsp
      have h4 : a.data.toList = [] := by
        have := congrArg List.head? hsp
        simpa using this.symm
      have := (vB_size a (h1 a (by simp))).1
      rw [size_len, h4] at this
      simp at this
    rw [if_neg hne, hsp, map_mkB, if_pos h]
/-- A path is the path of its names. -/
theorem join_split (s : ByteArray) (h : (splitOf s).2 = 0) : chkL (splitOf s).1 = 0 ∧ mkB (joinL (splitOf s).1) = s := by
  unfold splitOf at h ⊢
  cases hd : s.data.toList with
  | nil => rw [hd] at h; cases h
  | cons c r =>
    rw [hd] at h
    unfold splitL at h ⊢
    dsimp only at h ⊢
    by_cases hc : c = 47
    · subst hc
      rw [if_pos rfl] at h ⊢
      by_cases h0 : r = []
      · rw [if_pos h0] at h ⊢
        refine ⟨rfl, ?_⟩
        apply data_inj
        rw [hd, h0]; rfl
      · rw [if_neg h0] at h ⊢
        by_cases h3 : chkL ((sp 47 r).map mkB) = 0
        · rw [if_pos h3] at h ⊢
          refine ⟨h3, ?_⟩
          apply data_inj
          rw [hd]
          show 47 :: Lib.join (((sp 47 r).map mkB).map (·.data.toList)) [47] = _
          rw [map_data, join_sp]
        · rw [if_neg h3] at h
          exact absurd h h3
    · rw [if_neg hc] at h; cases h
theorem split_sizes (s : ByteArray) : ∀ x ∈ (splitOf s).1, x.size ≤ 32 := by
  by_cases h : (splitOf s).2 = 0
  · intro x hx
    exact (vB_size x ((chk0 _ (join_split s h).1).1 x hx)).2
  · intro x hx
    exfalso
    revert h hx
    unfold splitOf splitL
    split
    · simp
    · split
      · split
        · simp
        · split <;> simp_all
      · simp
theorem sane_ok : groupcontrollaw1_sane.f = some true := by decide +kernel
end Go.Proofs.YtjpbdkfgblmioaaDoor.PA
