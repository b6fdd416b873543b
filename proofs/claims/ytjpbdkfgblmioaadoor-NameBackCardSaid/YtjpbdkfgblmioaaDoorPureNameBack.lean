/- Split and Join undo each other: the pure statement, for every text and row of ints. -/
import Derived.Test.YtjpbdkfgblmioaaDoorPure2
import Derived.Test.YtjpbdkfgblmioaaDoorPAx25
namespace Go.Proofs.YtjpbdkfgblmioaaDoor.Pure
open Go.RowKit Go.Proofs.YtjpbdkfgblmioaaDoor.PA Go.Proofs.YtjpbdkfgblmioaaDoorW.PrintWords Go.Proofs.YtjpbdkfgblmioaaDoorW.PrintLast
set_option maxRecDepth 100000
theorem back_step (k : Nat) (y : List ByteArray) (hy : ∀ s ∈ y, s.size ≤ 1000) (i : Nat) (hi : i < y.length) (hl : y.length ≤ 1000) :
    groupcontrollaw1_NameBack.l0 (k + 1) y (y.length : Int) (i : Int) = groupcontrollaw1_NameBack.l0 k y (y.length : Int) ((i + 1 : Nat) : Int) := by
  have hw : wrap64 ((i : Int) + 1) = ((i + 1 : Nat) : Int) := by rw [wrapS _ (by omega) (by omega)]; rfl
  have hs := rdOf_size 1000 y hy i
  simp only [groupcontrollaw1_NameBack.l0]
  rw [if_pos (by omega), if_pos (by omega), if_pos (by omega), hw, split_f _ (by omega), Option.bind_some]
  generalize rdOf ByteArray.empty y (i : Int) = s at hs ⊢
  by_cases h : (splitOf s).2 = 0
  · obtain ⟨h1, h2⟩ := join_split s h
    rw [if_pos h, join_f _ (fun x hx => by have := split_sizes s x hx; omega), Option.bind_some]
    unfold joinOf
    rw [if_pos h1]
    dsimp only
    rw [if_pos rfl, h2, if_pos rfl]
  · rw [if_neg h]
theorem back_all (y : List ByteArray) (hy : ∀ s ∈ y, s.size ≤ 1000) (hl : y.length ≤ 1000) : ∀ (m i k : Nat), i + m = y.length → 1 + m ≤ k → groupcontrollaw1_NameBack.l0 k y (y.length : Int) (i : Int) = some true
  | 0, i, k, hi, hk => by
    obtain ⟨k, rfl⟩ : ∃ j, k = j + 1 := ⟨k - 1, by omega⟩
    simp only [groupcontrollaw1_NameBack.l0]
    rw [if_neg (by omega), sane_ok, Option.bind_some]
  | m + 1, i, k, hi, hk => by
    obtain ⟨k, rfl⟩ : ∃ j, k = j + 1 := ⟨k - 1, by omega⟩
    rw [back_step k y hy i (by omega) hl]
    exact back_all y hy hl m (i + 1) k (by omega) (by omega)
theorem j0_true (k : Nat) (a : ByteArray) (l : List Int) : groupcontrollaw1_NameBack.j0 (k + 1) a l true = some true := by
  simp only [groupcontrollaw1_NameBack.j0]
  rw [if_pos trivial, sane_ok, Option.bind_some]
theorem j0_false (k : Nat) (hk : 20 ≤ k) (a : ByteArray) (ha : a.size ≤ 500) (l : List Int) (hl : l.length ≤ 600) : groupcontrollaw1_NameBack.j0 (k + 1) a l false = some true := by
  simp only [groupcontrollaw1_NameBack.j0]
  rw [if_neg (show ¬ (false = true) by decide)]
  unfold groupcontrolmade_Roll.f
  rw [Option.bind_some]
  dsimp only
  obtain ⟨r1, c1, e1, s1, h1, h1'⟩ := path_ok k l 0 hl (by omega) (by omega) (by omega)
  rw [e1, Option.bind_some, Option.bind_some]
  dsimp only
  refine back_all _ ?_ (by simp) 3 0 k (by simp) (by omega)
  have es : (⟨#[47]⟩ : ByteArray).size = 1 := rfl
  intro s hs
  simp only [List.mem_cons, List.not_mem_nil, or_false] at hs
  rcases hs with rfl | rfl | rfl <;> omega
theorem NameBack : groupcontrollaw1_NameBack.Pure := by
  intro a0 l1 _ _ _ _
  refine ⟨21, ?_⟩
  unfold groupcontrollaw1_NameBack.f groupcontrolmade_Light.f
  generalize hk : (20 : Nat) = k
  rw [show (21 : Nat) = k + 1 by omega]
  by_cases h : (a0.size : Int) > 500
  · rw [if_pos h, j0_true k]
  · rw [if_neg h, Option.bind_some]
    by_cases h2 : (l1.length : Int) ≤ 600
    · rw [decide_eq_true h2]
      exact j0_false k (by omega) a0 (by omega) l1 (by omega)
    · rw [decide_eq_false h2]
      exact j0_true k a0 l1
end Go.Proofs.YtjpbdkfgblmioaaDoor.Pure
