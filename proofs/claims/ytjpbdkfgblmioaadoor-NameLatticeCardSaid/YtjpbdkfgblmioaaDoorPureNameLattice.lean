/- The common path of two paths lies above both, every path above both lies above it, and it does not depend on their order: the pure statement, for every row of ints. -/
import Derived.Test.YtjpbdkfgblmioaaDoorPure2
import Derived.Test.YtjpbdkfgblmioaaDoorPAx30
namespace Go.Proofs.YtjpbdkfgblmioaaDoor.Pure
open Go.RowKit Go.Proofs.YtjpbdkfgblmioaaDoor.PA Go.Proofs.YtjpbdkfgblmioaaDoorW.PrintWords Go.Proofs.YtjpbdkfgblmioaaDoorW.PrintLast
set_option maxRecDepth 100000
theorem comLen_le : ∀ l m : List ByteArray, comLen l m ≤ l.length
  | [], m => by simp [comLen]
  | x :: l, [] => by simp [comLen]
  | x :: l, y :: m => by
    have ih := comLen_le l m
    unfold comLen
    split
    · simp; omega
    · simp
theorem comLen_comm : ∀ l m : List ByteArray, comLen l m = comLen m l
  | [], [] => rfl
  | [], y :: m => rfl
  | x :: l, [] => rfl
  | x :: l, y :: m => by
    have ih := comLen_comm l m
    unfold comLen
    by_cases h : x = y
    · rw [if_pos h, if_pos h.symm, ih]
    · rw [if_neg h, if_neg (Ne.symm h)]
theorem comLen_take : ∀ l m : List ByteArray, l.take (comLen l m) = m.take (comLen l m)
  | [], m => by simp [comLen]
  | x :: l, [] => by simp [comLen]
  | x :: l, y :: m => by
    have ih := comLen_take l m
    unfold comLen
    by_cases h : x = y
    · rw [if_pos h, List.take_succ_cons, List.take_succ_cons, ih, h]
    · rw [if_neg h]; rfl
theorem comLen_self : ∀ l m : List ByteArray, comLen (l.take (comLen l m)) l = (l.take (comLen l m)).length
  | [], m => by simp [comLen]
  | x :: l, [] => by simp [comLen]
  | x :: l, y :: m => by
    have ih := comLen_self l m
    by_cases h : x = y
    · have e : comLen (x :: l) (y :: m) = comLen l m + 1 := by rw [comLen, if_pos h]
      rw [e, List.take_succ_cons, comLen, if_pos rfl, ih]; rfl
    · have e : comLen (x :: l) (y :: m) = 0 := by rw [comLen, if_neg h]
      rw [e]; rfl
theorem comLen_both : ∀ c a b : List ByteArray, comLen c a = c.length → comLen c b = c.length → comLen c (a.take (comLen a b)) = c.length
  | [], a, b, _, _ => by simp [comLen]
  | x :: c, [], b, h, _ => by simp [comLen] at h
  | x :: c, y :: a, [], _, h => by simp [comLen] at h
  | x :: c, y :: a, z :: b, h1, h2 => by
    have hy : x = y := by
      by_cases h : x = y
      · exact h
      · rw [comLen, if_neg h] at h1; simp at h1
    have hz : x = z := by
      by_cases h : x = z
      · exact h
      · rw [comLen, if_neg h] at h2; simp at h2
    subst hy
    subst hz
    rw [comLen, if_pos rfl] at h1 h2
    have ih := comLen_both c a b (by simpa using h1) (by simpa using h2)
    have e : comLen (x :: a) (x :: b) = comLen a b + 1 := by rw [comLen, if_pos rfl]
    rw [e, List.take_succ_cons, comLen, if_pos rfl, ih]; rfl
/-- The longest path under which two paths lie. -/
def commonOf (a b : ByteArray) : ByteArray × Int :=
  if (splitOf a).2 = 0 then (if (splitOf b).2 = 0 then joinOf ((splitOf a).1.take (comLen (splitOf a).1 (splitOf b).1)) else (⟨#[]⟩, (splitOf b).2)) else (⟨#[]⟩, (splitOf a).2)
theorem common_f (a b : ByteArray) (ha : a.size ≤ 1000000) (hb : b.size ≤ 1000000) : name_Common.f a b = some (commonOf a b) := by
  unfold name_Common.f commonOf
  rw [split_f a ha, Option.bind_some]
  by_cases h : (splitOf a).2 = 0
  · rw [if_pos h, if_pos h, split_f b hb, Option.bind_some]
    by_cases h2 : (splitOf b).2 = 0
    · have hl := comLen_le (splitOf a).1 (splitOf b).1
      have hz : ∀ s ∈ (splitOf a).1.take (comLen (splitOf a).1 (splitOf b).1), s.size ≤ 4611686018427387904 := fun s hs => by
        have := split_sizes a s (List.mem_of_mem_take hs); omega
      rw [if_pos h2, if_pos h2]
      unfold name_alike.f
      rw [Option.bind_some, if_pos (by omega), if_pos (by omega), Int.toNat_natCast, join_f _ hz, Option.bind_some]
    · rw [if_neg h2, if_neg h2]
  · rw [if_neg h, if_neg h]
def underOf (a b : ByteArray) : Bool := ((splitOf a).2 == 0) && (((splitOf b).2 == 0) && ((comLen (splitOf a).1 (splitOf b).1 : Int) == ((splitOf a).1.length : Int)))
theorem under_f (a b : ByteArray) (ha : a.size ≤ 1000000) (hb : b.size ≤ 1000000) : name_Under.f a b = some (underOf a b) := by
  unfold name_Under.f name_names.f underOf
  rw [split_f a ha, split_f b hb, Option.bind_some, Option.bind_some, Option.bind_some, Option.bind_some]
  dsimp only
  cases (splitOf a).2 == 0 with
  | false => rw [if_neg (by decide)]; rfl
  | true =>
    rw [if_pos rfl]
    cases (splitOf b).2 == 0 with
    | false => rw [if_neg (by decide)]; rfl
    | true =>
      rw [if_pos rfl]
      unfold name_alike.f
      rw [Option.bind_some]; rfl
theorem chk_take (l : List ByteArray) (n : Nat) (h : chkL l = 0) : chkL (l.take n) = 0 := by
  obtain ⟨h1, h2⟩ := chk0 l h
  exact chk_ok _ (fun s hs => h1 s (List.mem_of_mem_take hs)) (by rw [List.length_take]; omega)
theorem joinL_size (l : List ByteArray) (h : chkL l = 0) : (mkB (joinL l)).size ≤ 1000 := by
  obtain ⟨h1, h2⟩ := chk0 l h
  have := join_len l (fun s hs => (vB_size s (h1 s hs)).2)
  rw [mkB_size]
  unfold joinL
  rw [List.length_cons]
  omega
theorem lat_j2 (k : Nat) (a x : ByteArray) (ha : a.size ≤ 1000000) (hx : x.size ≤ 1000000) (h : commonOf x a = (x, 0)) : groupcontrollaw1_NameLattice.j2 (k + 1) a x false = some true := by
  simp only [groupcontrollaw1_NameLattice.j2]
  rw [if_neg (show ¬ (false = true) by decide), common_f x a hx ha, Option.bind_some, h, if_pos rfl, if_pos rfl, sane_ok, Option.bind_some]
theorem lat_j1_err (k : Nat) (a b c x y : ByteArray) (e f : Int) (he : e ≠ 0) (hf : f ≠ 0) : groupcontrollaw1_NameLattice.j1 (k + 1) a b c x e y f true = some true := by
  simp only [groupcontrollaw1_NameLattice.j1]
  have e1 : (e == 0) = false := by simpa using he
  have e2 : (f == 0) = false := by simpa using hf
  rw [if_pos trivial, e1, e2, if_pos (by rfl), sane_ok, Option.bind_some]
theorem lat_j1 (k : Nat) (a b c x : ByteArray) (ha : a.size ≤ 1000000) (hb : b.size ≤ 1000000) (hc : c.size ≤ 1000000) (hx : x.size ≤ 1000000)
    (h1 : underOf x a = true) (h2 : underOf x b = true) (h3 : underOf c a = true → underOf c b = true → underOf c x = true) (h : commonOf x a = (x, 0)) :
    groupcontrollaw1_NameLattice.j1 (k + 1 + 1) a b c x 0 x 0 false = some true := by
  have hj := lat_j2 k a x ha hx h
  generalize hk1 : k + 1 = k1 at hj ⊢
  simp only [groupcontrollaw1_NameLattice.j1]
  rw [if_neg (show ¬ (false = true) by decide), if_pos trivial, under_f x a hx ha, Option.bind_some, if_pos h1, under_f x b hx hb, Option.bind_some, if_pos h2, under_f c a hc ha, Option.bind_some]
  by_cases u1 : underOf c a = true
  · rw [if_pos u1, under_f c b hc hb, Option.bind_some]
    by_cases u2 : underOf c b = true
    · rw [if_pos u2, under_f c x hc hx, Option.bind_some, h3 u1 u2]
      exact hj
    · rw [if_neg u2]; exact hj
  · rw [if_neg u1]; exact hj
theorem under_iff (a b : ByteArray) : underOf a b = true ↔ (splitOf a).2 = 0 ∧ (splitOf b).2 = 0 ∧ comLen (splitOf a).1 (splitOf b).1 = (splitOf a).1.length := by
  unfold underOf
  simp only [Bool.and_eq_true, beq_iff_eq]
  constructor
  · rintro ⟨h1, h2, h3⟩; exact ⟨h1, h2, by omega⟩
  · rintro ⟨h1, h2, h3⟩; exact ⟨h1, h2, by omega⟩
theorem lat_j0 (k : Nat) (a b c : ByteArray) (ha : a.size ≤ 1000000) (hb : b.size ≤ 1000000) (hc : c.size ≤ 1000000) : groupcontrollaw1_NameLattice.j0 (k + 1 + 1 + 1) a b c = some true := by
  have herr := fun (x y : ByteArray) (e f : Int) (he : e ≠ 0) (hf : f ≠ 0) => lat_j1_err (k + 1) a b c x y e f he hf
  have hok := fun (x : ByteArray) (hx : x.size ≤ 1000000) => lat_j1 k a b c x ha hb hc hx
  generalize hk2 : k + 1 + 1 = k2 at herr hok ⊢
  simp only [groupcontrollaw1_NameLattice.j0]
  rw [common_f a b ha hb, common_f b a hb ha, Option.bind_some, Option.bind_some]
  unfold commonOf
  by_cases h1 : (splitOf a).2 = 0
  · by_cases h2 : (splitOf b).2 = 0
    · rw [if_pos h1, if_pos h2, if_pos h2, if_pos h1, comLen_comm (splitOf b).1 (splitOf a).1, ← comLen_take (splitOf a).1 (splitOf b).1]
      have hA := (join_split a h1).1
      have hT := chk_take _ (comLen (splitOf a).1 (splitOf b).1) hA
      have hs1 := comLen_self (splitOf a).1 (splitOf b).1
      have hs2 := comLen_self (splitOf b).1 (splitOf a).1
      rw [comLen_comm (splitOf b).1 (splitOf a).1, ← comLen_take (splitOf a).1 (splitOf b).1] at hs2
      have hs3 := fun C : List ByteArray => comLen_both C (splitOf a).1 (splitOf b).1
      generalize hN : (splitOf a).1.take (comLen (splitOf a).1 (splitOf b).1) = T at hT hs1 hs2 hs3 ⊢
      have hsx := split_join T hT
      have hz := joinL_size T hT
      have hjo : joinOf T = (mkB (joinL T), 0) := by unfold joinOf; rw [if_pos hT]
      rw [hjo]
      dsimp only
      rw [if_pos rfl, show ((0 : Int) != 0) = false by rfl]
      generalize mkB (joinL T) = x at hsx hz hjo ⊢
      refine hok x (by omega) ?_ ?_ ?_ ?_
      · rw [under_iff, hsx]; exact ⟨rfl, h1, hs1⟩
      · rw [under_iff, hsx]; exact ⟨rfl, h2, hs2⟩
      · rw [under_iff, under_iff, under_iff, hsx]
        rintro ⟨p1, _, p3⟩ ⟨_, _, q3⟩
        exact ⟨p1, rfl, hs3 _ p3 q3⟩
      · unfold commonOf
        rw [hsx]
        dsimp only
        rw [if_pos rfl, if_pos h1, hs1, List.take_length, hjo]
    · rw [if_pos h1, if_neg h2, if_neg h2]
      dsimp only
      rw [if_neg h2]
      exact herr _ _ _ _ h2 h2
  · by_cases h2 : (splitOf b).2 = 0
    · rw [if_neg h1, if_pos h2, if_neg h1]
      dsimp only
      rw [if_neg h1]
      exact herr _ _ _ _ h1 h1
    · rw [if_neg h1, if_neg h2]
      dsimp only
      rw [if_neg h1]
      exact herr _ _ _ _ h1 h2
theorem bool_ok (k : Nat) (l : List Int) (c : Int) (hl : l.length ≤ 600) (h0 : 0 ≤ c) (hc : c ≤ l.length) : ∃ r c', groupcontrolmade_Dice_Bool.f (k + 1) l c 2 = some (r, c') := by
  unfold groupcontrolmade_Dice_Bool.f
  obtain ⟨r, c', e, _⟩ := next_ok k l c 2 hl h0 hc (by omega) (by omega)
  rw [e, Option.bind_some]
  exact ⟨_, _, rfl⟩
theorem NameLattice : groupcontrollaw1_NameLattice.Pure := by
  intro l0 _ _ _
  refine ⟨20, ?_⟩
  unfold groupcontrollaw1_NameLattice.f groupcontrolmade_Light.f
  rw [Option.bind_some]
  by_cases h2 : (l0.length : Int) ≤ 600
  · have hl : l0.length ≤ 600 := by omega
    rw [decide_eq_true h2, if_pos rfl]
    unfold groupcontrolmade_Roll.f
    rw [Option.bind_some]
    dsimp only
    have hj := fun (a b c : ByteArray) => lat_j0 17 a b c
    generalize hk : (20 : Nat) = k at hj ⊢
    rw [show 17 + 1 + 1 + 1 = k by omega] at hj
    obtain ⟨r1, c1, e1, s1, h1, h1'⟩ := path_ok k l0 0 hl (by omega) (by omega) (by omega)
    rw [e1, Option.bind_some]
    dsimp only
    obtain ⟨r2, c2, e2, s2, h2, h2'⟩ := path_ok k l0 c1 hl h1 h1' (by omega)
    rw [e2, Option.bind_some]
    dsimp only
    obtain ⟨r3, c3, e3, s3, h3, h3'⟩ := path_ok k l0 c2 hl h2 h2' (by omega)
    rw [e3, Option.bind_some]
    dsimp only
    obtain ⟨q, c4, e4⟩ := bool_ok (k - 1) l0 c3 hl h3 h3'
    rw [show k - 1 + 1 = k by omega] at e4
    rw [e4, Option.bind_some]
    dsimp only
    have es : (⟨#[47, 98]⟩ : ByteArray).size = 2 := rfl
    cases q with
    | true =>
      rw [if_pos rfl, if_pos (by omega)]
      exact hj _ _ _ (by omega) (by rw [ByteArray.size_append]; omega) (by omega)
    | false =>
      rw [if_neg (by decide)]
      exact hj _ _ _ (by omega) (by omega) (by omega)
  · rw [decide_eq_false h2, if_neg (by decide), sane_ok, Option.bind_some]
end Go.Proofs.YtjpbdkfgblmioaaDoor.Pure
