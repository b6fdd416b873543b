import Derived.Test.YtancnonigponaaaPVx15
import Derived.Test.YtancnonigponaaaPVx20
import Derived.Test.YtancnonigponaaaPVx10
import Derived.Test.YtancnonigponaaaPVx19
import Derived.Test.YtancnonigponaaaPVx14
import Derived.Test.YtancnonigponaaaPVx25
set_option linter.unusedVariables false
namespace Go.Proofs.Ytancnonigponaaa.Pure
open Go.RowKit Go.Proofs.Ytancnonigponaaa.PV Go.Proofs.YtancnonigponaaaW.PrintWords Go.Proofs.YtancnonigponaaaW.PrintLast

/-- An item that stands in a queue with a clock. -/
structure Good (q : Int) (x : S36) : Prop where
  id : x.f0 ≠ 0
  cost : costV x.f1 ≠ 0
  lo : 0 ≤ x.f2
  hi : x.f2 ≤ q + costV x.f1
  top : x.f2 ≤ 1152921504606846976
  act : x.f3 = true → q ≤ x.f2
/-- A well-formed queue. -/
structure Ok (q : Int) (l : List S36) : Prop where
  lo : 0 ≤ q
  hi : q ≤ 1152921504606846976
  len : l.length ≤ 192
  all : ∀ x ∈ l, Good q x
  sorted : (l.map S36.f0).Pairwise (· < ·)
theorem rd_get (l : List S36) (i : Nat) (h : i < l.length) : rd_T36 l i = l[i] := by
  unfold rd_T36; simp only [Int.toNat_natCast, List.getD_eq_getElem?_getD, List.getElem?_eq_getElem h, Option.getD_some]
theorem good_bad (q : Int) (l : List S36) (i : Nat) (h : i < l.length) (hg : Good q l[i]) (hs : 0 < i → (rd_T36 l ((i : Int) - 1)).f0 < (l[i]).f0) : badAt q l i = false := by
  unfold badAt
  rw [rd_get l i h]
  simp only [Bool.or_eq_false_iff, Bool.and_eq_false_iff, decide_eq_false_iff_not, beq_eq_false_iff_ne]
  refine ⟨⟨⟨⟨⟨hg.id, ?_⟩, hg.cost⟩, by have := hg.lo; omega⟩, by have := hg.hi; have := hg.top; split <;> omega⟩, ?_⟩
  · by_cases h0 : 0 < i
    · right; have := hs h0; omega
    · left; exact h0
  · cases h3 : l[i].f3 with
    | false => left; rfl
    | true => right; have := hg.act h3; omega
theorem ok_ck {q : Int} {l : List S36} (h : Ok q l) : ckV q l = true := by
  refine ckV_ok q l h.lo h.hi h.len (fun i hi => good_bad q l i hi (h.all _ (List.getElem_mem hi)) (fun h0 => ?_))
  have hs := List.pairwise_iff_getElem.1 h.sorted (i - 1) i (by rw [List.length_map]; omega) (by rw [List.length_map]; exact hi) (by omega)
  rw [List.getElem_map, List.getElem_map] at hs
  rw [show (i : Int) - 1 = ((i - 1 : Nat) : Int) by omega, rd_get l (i - 1) (by omega)]
  exact hs
theorem ck_ok {q : Int} {l : List S36} (h : ckV q l = true) : Ok q l := by
  obtain ⟨h0, h1, _⟩ := ckV_badAt h
  refine ⟨h0, h1, ckV_len h, fun x hx => ?_, ?_⟩
  · obtain ⟨i, hi, rfl⟩ := List.getElem_of_mem hx
    have := ckV_at h i hi
    rw [rd_get l i hi] at this
    exact ⟨this.1, this.2.1, this.2.2.1, this.2.2.2.2.1, this.2.2.2.1, this.2.2.2.2.2.1⟩
  · rw [List.pairwise_iff_getElem]
    intro i j hi hj hij
    rw [List.length_map] at hi hj
    rw [List.getElem_map, List.getElem_map]
    have := sorted_of_ck h i j hij hj
    rwa [rd_get l i hi, rd_get l j hj] at this
theorem ck_iff (q : Int) (l : List S36) : ckV q l = true ↔ Ok q l := ⟨ck_ok, ok_ck⟩
/-! ### The least active time -/
theorem fold_step (l : List S36) : ∀ (a : Int × Bool), (l.foldl stepF a).2 = (a.2 || l.any (·.f3)) ∧
    ((l.foldl stepF a).2 = true → ((a.2 = true ∧ (l.foldl stepF a).1 = a.1) ∨ ∃ x ∈ l, x.f3 = true ∧ (l.foldl stepF a).1 = x.f2) ∧ (a.2 = true → (l.foldl stepF a).1 ≤ a.1) ∧ ∀ x ∈ l, x.f3 = true → (l.foldl stepF a).1 ≤ x.f2) := by
  induction l with
  | nil => intro a; simp
  | cons x l ih =>
    intro a
    rw [List.foldl_cons]
    obtain ⟨i1, i2⟩ := ih (stepF a x)
    have hs : stepF a x = if x.f3 = true then (if a.2 = true then (if x.f2 < a.1 then (x.f2, true) else a) else (x.f2, true)) else a := rfl
    by_cases h3 : x.f3 = true
    · rw [if_pos h3] at hs
      have h2 : (stepF a x).2 = true := by rw [hs]; split <;> (try split) <;> simp_all
      refine ⟨by rw [i1, h2]; simp [h3], fun _ => ?_⟩
      obtain ⟨j1, j2, j3⟩ := i2 (by rw [i1, h2]; rfl)
      have k2 := j2 h2
      have hle : (stepF a x).1 ≤ x.f2 ∧ (a.2 = true → (stepF a x).1 ≤ a.1) ∧ ((stepF a x).1 = x.f2 ∨ (a.2 = true ∧ (stepF a x).1 = a.1)) := by
        rw [hs]
        by_cases ha : a.2 = true
        · rw [if_pos ha]
          by_cases hl : x.f2 < a.1
          · rw [if_pos hl]; exact ⟨Int.le_refl _, fun _ => by show x.f2 ≤ a.1; omega, .inl rfl⟩
          · rw [if_neg hl]; exact ⟨by omega, fun _ => Int.le_refl _, .inr ⟨ha, rfl⟩⟩
        · rw [if_neg ha]; exact ⟨Int.le_refl _, fun h => absurd h ha, .inl rfl⟩
      refine ⟨?_, fun h => Int.le_trans k2 (hle.2.1 h), fun y hy hy3 => ?_⟩
      · rcases j1 with ⟨_, j1⟩ | ⟨y, hy, hy3, e⟩
        · rcases hle.2.2 with e | ⟨ha, e⟩
          · exact .inr ⟨x, by simp, h3, j1.trans e⟩
          · exact .inl ⟨ha, j1.trans e⟩
        · exact .inr ⟨y, by simp [hy], hy3, e⟩
      · rcases List.mem_cons.1 hy with rfl | hy
        · exact Int.le_trans k2 hle.1
        · exact j3 y hy hy3
    · rw [if_neg h3] at hs
      rw [hs] at i1 i2 ⊢
      refine ⟨by rw [i1]; simp [h3], fun h => ?_⟩
      obtain ⟨j1, j2, j3⟩ := i2 h
      refine ⟨?_, j2, fun y hy hy3 => ?_⟩
      · rcases j1 with j1 | ⟨y, hy, e⟩
        · exact .inl j1
        · exact .inr ⟨y, by simp [hy], e⟩
      · rcases List.mem_cons.1 hy with rfl | hy
        · exact absurd hy3 h3
        · exact j3 y hy hy3
/-- What settling does: the clock is the old one, or the least active time, the greater of the two. -/
theorem settle_spec (q : Int) (l : List S36) : q ≤ settleV q l ∧ (settleV q l = q ∨ ∃ x ∈ l, x.f3 = true ∧ settleV q l = x.f2) ∧ (∀ x ∈ l, x.f3 = true → q ≤ x.f2 → settleV q l ≤ x.f2) := by
  obtain ⟨h1, h2⟩ := fold_step l (0, false)
  unfold settleV
  by_cases h : (l.foldl stepF (0, false)).2 = true
  · rw [if_pos h]
    obtain ⟨j1, _, j3⟩ := h2 h
    unfold mx
    have hj : ∃ x ∈ l, x.f3 = true ∧ (l.foldl stepF (0, false)).1 = x.f2 := by
      rcases j1 with ⟨e, _⟩ | j1
      · cases e
      · exact j1
    obtain ⟨x, hx, hx3, e⟩ := hj
    by_cases hl : q < (l.foldl stepF (0, false)).1
    · rw [if_pos hl]
      exact ⟨by omega, .inr ⟨x, hx, hx3, e⟩, fun y hy hy3 _ => j3 y hy hy3⟩
    · rw [if_neg hl]
      exact ⟨Int.le_refl _, .inl rfl, fun y hy hy3 hq => hq⟩
  · rw [if_neg h]
    exact ⟨Int.le_refl _, .inl rfl, fun y hy hy3 hq => hq⟩
theorem settle_ok {q : Int} {l : List S36} (h : Ok q l) : Ok (settleV q l) l ∧ q ≤ settleV q l := by
  obtain ⟨h1, h2, h3⟩ := settle_spec q l
  refine ⟨⟨Int.le_trans h.lo h1, ?_, h.len, fun x hx => ?_, h.sorted⟩, h1⟩
  · rcases h2 with e | ⟨x, hx, _, e⟩
    · rw [e]; exact h.hi
    · rw [e]; exact (h.all x hx).top
  · have g := h.all x hx
    exact ⟨g.id, g.cost, g.lo, by have := g.hi; omega, g.top, fun ha => h3 x hx ha (g.act ha)⟩
/-! ### Changing one item, or all -/
theorem map_set_f0 (l : List S36) (i : Nat) (x : S36) (h : i < l.length) (hx : x.f0 = l[i].f0) : (l.set i x).map S36.f0 = l.map S36.f0 := by
  rw [List.map_set, hx]
  refine List.ext_getElem (by simp) (fun j h1 h2 => ?_)
  rw [List.getElem_set]
  split
  · rename_i e; subst e; rw [List.getElem_map]
  · rfl
theorem ok_set {q : Int} {l : List S36} (h : Ok q l) (i : Nat) (hi : i < l.length) (x : S36) (hx : x.f0 = l[i].f0) (hg : Good q x) : Ok q (l.set i x) :=
  ⟨h.lo, h.hi, by rw [List.length_set]; exact h.len, fun y hy => by
    rcases List.mem_or_eq_of_mem_set hy with hy | rfl
    · exact h.all y hy
    · exact hg, by rw [map_set_f0 l i x hi hx]; exact h.sorted⟩
theorem idx_some {l : List S36} {id : Int} {i : Nat} (h : idxOf l id = i) : ∃ hi : i < l.length, l[i].f0 = id := by
  induction l generalizing i with
  | nil => unfold idxOf at h; omega
  | cons x l ih =>
    unfold idxOf at h
    split at h
    · have : i = 0 := by omega
      subst this
      exact ⟨by simp, by assumption⟩
    · split at h
      · omega
      · obtain ⟨hi, e⟩ := ih (i := i - 1) (by omega)
        obtain ⟨j, rfl⟩ : ∃ j, i = j + 1 := ⟨i - 1, by omega⟩
        exact ⟨by simp; simp at hi; omega, by simpa using e⟩
theorem idx_none {l : List S36} {id : Int} (h : idxOf l id < 0) : ∀ x ∈ l, x.f0 ≠ id := by
  induction l with
  | nil => simp
  | cons x l ih =>
    unfold idxOf at h
    split at h
    · omega
    · split at h
      · intro y hy
        rcases List.mem_cons.1 hy with rfl | hy
        · assumption
        · exact ih (by assumption) y hy
      · omega
theorem sort_inj {l : List S36} (hs : (l.map S36.f0).Pairwise (· < ·)) {i j : Nat} (hi : i < l.length) (hj : j < l.length) (e : l[i].f0 = l[j].f0) : i = j := by
  rw [List.pairwise_iff_getElem] at hs
  rcases Nat.lt_trichotomy i j with h | h | h
  · have := hs i j (by rw [List.length_map]; exact hi) (by rw [List.length_map]; exact hj) h
    rw [List.getElem_map, List.getElem_map] at this; omega
  · exact h
  · have := hs j i (by rw [List.length_map]; exact hj) (by rw [List.length_map]; exact hi) h
    rw [List.getElem_map, List.getElem_map] at this; omega
theorem idx_of_get {l : List S36} (hs : (l.map S36.f0).Pairwise (· < ·)) {i : Nat} (hi : i < l.length) : idxOf l l[i].f0 = i := by
  rcases Int.lt_or_le (idxOf l l[i].f0) 0 with h | h
  · exact absurd rfl (idx_none h _ (List.getElem_mem hi))
  · obtain ⟨j, hj⟩ : ∃ j : Nat, idxOf l l[i].f0 = j := ⟨(idxOf l l[i].f0).toNat, by omega⟩
    obtain ⟨hjl, e⟩ := idx_some hj
    rw [hj, sort_inj hs hjl hi e]
end Go.Proofs.Ytancnonigponaaa.Pure
