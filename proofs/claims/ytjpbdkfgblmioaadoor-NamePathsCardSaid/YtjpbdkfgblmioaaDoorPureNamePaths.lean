/- Which strings are names and paths, and their parts: the plain statement, for every text, every list of texts and every row of ints. -/
import Derived.Test.YtjpbdkfgblmioaaDoorPure3
import Derived.Test.YtjpbdkfgblmioaaDoorNp1
namespace Go.Proofs.YtjpbdkfgblmioaaDoor.Pure
open Go.RowKit Go.Proofs.YtjpbdkfgblmioaaDoor.PA Go.Proofs.YtjpbdkfgblmioaaDoorW.PrintWords Go.Proofs.YtjpbdkfgblmioaaDoorW.PrintLast
set_option maxRecDepth 100000
theorem valid_f (s : ByteArray) (h : s.size ≤ 9223372036854775807) : name_Valid.f s = some (vB s) := by
  unfold name_Valid.f
  rw [if_pos h]
theorem split_count (s : ByteArray) (hs : s.size ≤ 1000) : (splitOf s).1.length ≤ 1000 := by
  unfold splitOf splitL
  have hl := size_len s
  cases hd : s.data.toList with
  | nil => simp
  | cons c r =>
    rw [hd, List.length_cons] at hl
    have := sp_count 47 r
    dsimp only
    split
    · split
      · simp
      · split
        · simp; omega
        · simp
    · simp
theorem p0_step (k : Nat) (hk : 3100 ≤ k) (x1 y : List ByteArray) (hy : ∀ s ∈ y, s.size ≤ 1000) (i : Nat) (hi : i < y.length) (hl : y.length ≤ 1000) (l : List Int) (c : Int) :
    groupcontrollaw1_NamePaths.l0 (k + 1) x1 y (y.length : Int) (i : Int) l c = groupcontrollaw1_NamePaths.l0 k x1 y (y.length : Int) ((i + 1 : Nat) : Int) l c := by
  have hw : wrap64 ((i : Int) + 1) = ((i + 1 : Nat) : Int) := by rw [wrapS _ (by omega) (by omega)]; rfl
  have hs := rdOf_size 1000 y hy i
  simp only [groupcontrollaw1_NamePaths.l0]
  rw [if_pos (by omega), if_pos (by omega), if_pos (by omega), hw]
  generalize rdOf ByteArray.empty y (i : Int) = s at hs ⊢
  have hn := split_count s hs
  rw [split_f s (by omega), Option.bind_some, refSplit s hs k (by omega), Option.bind_some, if_pos rfl, same_f _ (by omega) k (by omega), Option.bind_some, if_pos rfl, valid_f s (by omega), Option.bind_some, refValid s k (by omega), Option.bind_some,
    if_neg (by simp)]
theorem p1_step (k : Nat) (hk : 300 ≤ k) (y : List (List ByteArray)) (hy : ∀ l ∈ y, l.length ≤ 100 ∧ ∀ s ∈ l, s.size ≤ 9223372036854775807) (i : Nat) (hi : i < y.length) (hl : y.length ≤ 1000) :
    groupcontrollaw1_NamePaths.l1 (k + 1) y (y.length : Int) (i : Int) = groupcontrollaw1_NamePaths.l1 k y (y.length : Int) ((i + 1 : Nat) : Int) := by
  have hw : wrap64 ((i : Int) + 1) = ((i + 1 : Nat) : Int) := by rw [wrapS _ (by omega) (by omega)]; rfl
  have hm : rd_L3 y (i : Int) ∈ y := by
    have : rd_L3 y (i : Int) = y[i] := by simp [rd_L3, hi]
    rw [this]; exact List.getElem_mem hi
  obtain ⟨h1, h2⟩ := hy _ hm
  simp only [groupcontrollaw1_NamePaths.l1]
  rw [if_pos (by omega), if_pos (by omega), if_pos (by omega), hw, join_f _ h2, Option.bind_some, refJoin _ h1 k (by omega), Option.bind_some, if_pos rfl, if_pos rfl]
theorem p1_all (y : List (List ByteArray)) (hy : ∀ l ∈ y, l.length ≤ 100 ∧ ∀ s ∈ l, s.size ≤ 9223372036854775807) (hl : y.length ≤ 1000) : ∀ (m i k : Nat), i + m = y.length → 301 + m ≤ k → groupcontrollaw1_NamePaths.l1 k y (y.length : Int) (i : Int) = some true
  | 0, i, k, hi, hk => by
    obtain ⟨k, rfl⟩ : ∃ j, k = j + 1 := ⟨k - 1, by omega⟩
    simp only [groupcontrollaw1_NamePaths.l1]
    rw [if_neg (by omega), sane_ok, Option.bind_some]
  | m + 1, i, k, hi, hk => by
    obtain ⟨k, rfl⟩ : ∃ j, k = j + 1 := ⟨k - 1, by omega⟩
    rw [p1_step k (by omega) y hy i (by omega) hl]
    exact p1_all y hy hl m (i + 1) k (by omega) (by omega)
theorem p0_all (x1 y : List ByteArray) (hx : x1.length ≤ 100) (hx2 : ∀ s ∈ x1, s.size ≤ 9223372036854775807) (hy : ∀ s ∈ y, s.size ≤ 1000) (hl : y.length ≤ 1000) (l : List Int) (hll : l.length ≤ 600) (c : Int) (h0 : 0 ≤ c) (hc : c ≤ l.length) : ∀ (m i k : Nat), i + m = y.length → 3200 + m ≤ k → groupcontrollaw1_NamePaths.l0 k x1 y (y.length : Int) (i : Int) l c = some true
  | 0, i, k, hi, hk => by
    obtain ⟨k, rfl⟩ : ∃ j, k = j + 1 + 1 := ⟨k - 2, by omega⟩
    obtain ⟨r1, c1, e1, s1, h1, h1'⟩ := word_ok k l c hll h0 hc
    obtain ⟨r2, c2, e2, s2, h2, h2'⟩ := name_ok k l c1 hll h1 h1'
    obtain ⟨r3, c3, e3, b0, b1, _⟩ := next_ok k l c2 10 hll h2 h2' (by omega) (by omega)
    generalize hk2 : k + 1 = k2 at *
    simp only [groupcontrollaw1_NamePaths.l0]
    generalize hN : ([(⟨#[97]⟩ : ByteArray), (⟨#[98]⟩ : ByteArray), (⟨#[99]⟩ : ByteArray), (⟨#[100]⟩ : ByteArray), (⟨#[101]⟩ : ByteArray), (⟨#[102]⟩ : ByteArray), (⟨#[103]⟩ : ByteArray), (⟨#[104]⟩ : ByteArray), (⟨#[105]⟩ : ByteArray)] : List ByteArray) = N
    have lN : N.length = 9 := by rw [← hN]; rfl
    have sN : ∀ s ∈ N, s.size ≤ 10 := by rw [← hN]; decide
    rw [if_neg (by omega), e1, Option.bind_some]
    dsimp only
    rw [e2, Option.bind_some]
    dsimp only
    rw [e3, Option.bind_some]
    dsimp only
    rw [if_pos b0, if_pos (by omega), Option.bind_some]
    refine p1_all _ ?_ (by simp) 3 0 k2 (by simp) (by omega)
    intro q hq
    simp only [List.mem_cons, List.not_mem_nil, or_false] at hq
    rcases hq with rfl | rfl | rfl
    · exact ⟨hx, hx2⟩
    · refine ⟨by simp, fun s hs => ?_⟩
      simp only [List.mem_cons, List.not_mem_nil, or_false] at hs
      rcases hs with rfl | rfl <;> omega
    · refine ⟨by rw [List.length_take]; omega, fun s hs => ?_⟩
      have := sN s (List.mem_of_mem_take hs)
      omega
  | m + 1, i, k, hi, hk => by
    obtain ⟨k, rfl⟩ : ∃ j, k = j + 1 := ⟨k - 1, by omega⟩
    rw [p0_step k (by omega) x1 y hy i (by omega) hl]
    exact p0_all x1 y hx hx2 hy hl l hll c h0 hc m (i + 1) k (by omega) (by omega)
theorem pj0_true (k : Nat) (a : ByteArray) (x : List ByteArray) (l : List Int) : groupcontrollaw1_NamePaths.j0 (k + 1) a x l true = some true := by
  simp only [groupcontrollaw1_NamePaths.j0]
  rw [if_pos trivial, sane_ok, Option.bind_some]
theorem pj0_false (k : Nat) (hk : 3300 ≤ k) (a : ByteArray) (ha : a.size ≤ 500) (x : List ByteArray) (hx : x.length ≤ 20) (hx2 : ∀ s ∈ x, s.size ≤ 9223372036854775807) (l : List Int) (hl : l.length ≤ 600) : groupcontrollaw1_NamePaths.j0 (k + 1) a x l false = some true := by
  simp only [groupcontrollaw1_NamePaths.j0]
  rw [if_neg (show ¬ (false = true) by decide)]
  unfold groupcontrolmade_Roll.f
  rw [Option.bind_some]
  dsimp only
  obtain ⟨r1, c1, e1, s1, h1, h1'⟩ := path_ok k l 0 hl (by omega) (by omega) (by omega)
  obtain ⟨r2, c2, e2, s2, h2, h2'⟩ := path_ok k l c1 hl h1 h1' (by omega)
  obtain ⟨r3, c3, e3, s3, h3, h3'⟩ := word_ok (k - 1) l c2 hl h2 h2'
  rw [show k - 1 + 1 = k by omega] at e3
  rw [if_pos (by omega), e1, Option.bind_some]
  dsimp only
  rw [e2, Option.bind_some]
  dsimp only
  rw [e3, Option.bind_some, Option.bind_some]
  dsimp only
  refine p0_all x _ (by omega) hx2 ?_ (by simp) l hl c3 h3 h3' 5 0 k (by simp) (by omega)
  have es : (⟨#[47]⟩ : ByteArray).size = 1 := rfl
  intro s hs
  simp only [List.mem_cons, List.not_mem_nil, or_false] at hs
  rcases hs with rfl | rfl | rfl | rfl | rfl
  · omega
  · rw [ByteArray.size_append, es]; omega
  · omega
  · omega
  · omega
theorem NamePaths (a0 : ByteArray) (l1 : List ByteArray) (l2 : List Int) (hx : ∀ s ∈ l1, s.size ≤ 9223372036854775807) : groupcontrollaw1_NamePaths.f 3301 a0 l1 l2 = some true := by
  unfold groupcontrollaw1_NamePaths.f groupcontrolmade_Light.f
  generalize hk : (3300 : Nat) = k
  have hk' : 3300 ≤ k := by omega
  rw [show (3301 : Nat) = k + 1 by omega]
  by_cases h : (a0.size : Int) > 500
  · rw [if_pos h, pj0_true k]
  · rw [if_neg h]
    by_cases h1 : (l1.length : Int) > 20
    · rw [if_pos h1, pj0_true k]
    · rw [if_neg h1, Option.bind_some]
      by_cases h2 : (l2.length : Int) ≤ 600
      · rw [decide_eq_true h2]
        exact pj0_false k hk' a0 (by omega) l1 (by omega) hx l2 (by omega)
      · rw [decide_eq_false h2]
        exact pj0_true k a0 l1 l2
end Go.Proofs.YtjpbdkfgblmioaaDoor.Pure
