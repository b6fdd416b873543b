import Derived.Test.YtancnonigponaaaCore
import Derived.Test.YtancnonigponaaaPVx18
import Derived.Test.YtancnonigponaaaPVx21
import Derived.Test.YtancnonigponaaaPVx16
set_option linter.unusedVariables false
namespace Go.Proofs.Ytancnonigponaaa.Pure
open Go.RowKit Go.Proofs.Ytancnonigponaaa.PV Go.Proofs.YtancnonigponaaaW.PrintWords Go.Proofs.YtancnonigponaaaW.PrintLast

/-- What a function leaves: if it tells no error, a well-formed queue whose clock has not fallen. -/
def Fine (q : Int) (r : Int × List S36 × Int) : Prop := r.2.2 = 0 → Ok r.1 r.2.1 ∧ q ≤ r.1
theorem chV_fine {q : Int} {l : List S36} (id : Int) (F : Nat → Int × List S36) (h : Ok q l)
    (hF : ∀ i (hi : i < l.length), l[i].f0 = id → (F i).1 = 0 → ∃ q1, q ≤ q1 ∧ Ok q1 (F i).2 ∧ settleV q (F i).2 = settleV q1 (F i).2) : Fine q (chV q l id F) := by
  unfold Fine chV
  rw [if_pos (ok_ck h)]
  by_cases hix : idxOf l id < 0
  · rw [if_pos hix]; intro e; exact absurd e (by decide)
  · rw [if_neg hix]
    obtain ⟨i, e⟩ : ∃ i : Nat, idxOf l id = i := ⟨(idxOf l id).toNat, by omega⟩
    rw [e, Int.toNat_natCast]
    by_cases h0 : (F i).1 = 0
    · rw [if_pos h0]
      intro _
      obtain ⟨hi, hid⟩ := idx_some e
      obtain ⟨q1, h1, h2, h3⟩ := hF i hi hid h0
      show Ok (settleV q (F i).2) (F i).2 ∧ q ≤ settleV q (F i).2
      rw [h3]
      obtain ⟨a, b⟩ := settle_ok h2
      exact ⟨a, Int.le_trans h1 b⟩
    · rw [if_neg h0]; intro e; exact absurd e h0
theorem wake_fine {q : Int} {l : List S36} (id : Int) (h : Ok q l) : Fine q (chV q l id (wakeF q l)) := by
  refine chV_fine id _ h (fun i hi _ h0 => ⟨q, Int.le_refl _, ?_, rfl⟩)
  unfold wakeF at h0 ⊢
  rw [rd_get l i hi] at h0 ⊢
  by_cases h3 : l[i].f3 = true
  · rw [if_pos h3] at h0; exact absurd h0 (by simp)
  · rw [if_neg h3]
    have g := h.all _ (List.getElem_mem hi)
    refine ok_set h i hi _ rfl ⟨g.id, g.cost, ?_, ?_, ?_, fun _ => ?_⟩
    all_goals
      have := g.lo; have := g.hi; have := g.top; have := h.lo; have := h.hi; have := costV_bd l[i].f1
      show (_ : Int) ≤ _
      simp only
      unfold mx
      split <;> omega
theorem sleep_fine {q : Int} {l : List S36} (id : Int) (h : Ok q l) : Fine q (chV q l id (sleepF l)) := by
  refine chV_fine id _ h (fun i hi _ h0 => ⟨q, Int.le_refl _, ?_, rfl⟩)
  unfold sleepF at h0 ⊢
  rw [rd_get l i hi] at h0 ⊢
  by_cases h3 : l[i].f3 = true
  · rw [if_pos h3]
    have g := h.all _ (List.getElem_mem hi)
    exact ok_set h i hi _ rfl ⟨g.id, g.cost, g.lo, g.hi, g.top, fun e => absurd e (by simp)⟩
  · rw [if_neg h3] at h0; exact absurd h0 (by simp)
theorem drop_fine {q : Int} {l : List S36} (id : Int) (h : Ok q l) : Fine q (chV q l id (fun i => (0, l.eraseIdx i))) := by
  refine chV_fine id _ h (fun i hi _ h0 => ⟨q, Int.le_refl _, ?_, rfl⟩)
  refine ⟨h.lo, h.hi, ?_, fun x hx => h.all x (List.mem_of_mem_eraseIdx hx), ?_⟩
  · show (l.eraseIdx i).length ≤ 192
    rw [List.length_eraseIdx]; have := h.len; split <;> omega
  · show ((l.eraseIdx i).map S36.f0).Pairwise _
    exact h.sorted.sublist ((List.eraseIdx_sublist l i).map _)
theorem reweight_good {q : Int} {x : S36} (n : Int) (hq : 0 ≤ q ∧ q ≤ 1152921504606846976) (g : Good q x) (hn : costV n ≠ 0) : Good q { x with f1 := n, f2 := rwV q x n } := by
  have hb := costV_bd n
  have hc := costV_bd x.f1
  have g1 := g.lo; have g2 := g.hi; have g3 := g.top; have g4 := g.cost
  unfold rwV
  by_cases h : q < x.f2
  · rw [if_pos h]
    have hp0 : 0 ≤ (x.f2 - q) * costV n := Int.mul_nonneg (by omega) (by omega)
    have hd0 : 0 ≤ (x.f2 - q) * costV n / costV x.f1 := Int.ediv_nonneg hp0 (by omega)
    have hd1 : (x.f2 - q) * costV n / costV x.f1 ≤ costV n := by
      refine Int.ediv_le_of_le_mul (by omega) ?_
      rw [Int.mul_comm (costV n)]
      exact Int.mul_le_mul_of_nonneg_right (by omega) (by omega)
    refine ⟨g.id, hn, ?_, ?_, ?_, fun ha => ?_⟩
    all_goals
      show (_ : Int) ≤ _
      simp only
      split <;> omega
  · rw [if_neg h]
    exact ⟨g.id, hn, g1, by show x.f2 ≤ q + costV n; omega, g3, fun ha => g.act ha⟩
theorem reweight_fine {q : Int} {l : List S36} (id n : Int) (h : Ok q l) (hn : costV n ≠ 0) : Fine q (chV q l id (reweightF q n l)) := by
  refine chV_fine id _ h (fun i hi _ h0 => ⟨q, Int.le_refl _, ?_, rfl⟩)
  unfold reweightF
  rw [rd_get l i hi]
  exact ok_set h i hi _ rfl (reweight_good n ⟨h.lo, h.hi⟩ (h.all _ (List.getElem_mem hi)) hn)
theorem lift_f0 (v : Int) (x : S36) : (lift36 v x).f0 = x.f0 := by unfold lift36; split <;> rfl
theorem lift_map (v : Int) (l : List S36) : (l.map (lift36 v)).map S36.f0 = l.map S36.f0 := by
  rw [List.map_map]
  exact List.map_congr_left (fun x _ => lift_f0 v x)
theorem lift_good {q v : Int} {x : S36} (g : Good q x) (hqv : q ≤ v) (hv : v ≤ 1152921504606846976) : Good v (lift36 v x) := by
  have g1 := g.lo; have g2 := g.hi; have g3 := g.top; have hc := costV_bd x.f1
  unfold lift36
  by_cases h : x.f3 = true
  · rw [if_pos h]
    refine ⟨g.id, g.cost, ?_, ?_, ?_, fun _ => ?_⟩
    all_goals
      show (_ : Int) ≤ _
      simp only
      unfold mx
      split <;> omega
  · rw [if_neg h]
    exact ⟨g.id, g.cost, g1, by omega, g3, fun e => absurd e h⟩
/-- A queue after an item has been served, ahead of the settling. -/
theorem serve_ok {q : Int} {l : List S36} (h : Ok q l) (i : Nat) (hi : i < l.length) (ha : l[i].f3 = true) (hm : l[i].f2 + costV l[i].f1 ≤ 1152921504606846976) :
    q ≤ l[i].f2 ∧ Ok l[i].f2 ((l.map (lift36 l[i].f2)).set i { l[i] with f2 := l[i].f2 + costV l[i].f1 }) ∧ ∀ x ∈ ((l.map (lift36 l[i].f2)).set i { l[i] with f2 := l[i].f2 + costV l[i].f1 }), x.f3 = true → l[i].f2 ≤ x.f2 := by
  have g := h.all _ (List.getElem_mem hi)
  have hq := g.act ha
  have hc := costV_bd l[i].f1
  have g1 := g.lo
  have hmap : Ok l[i].f2 (l.map (lift36 l[i].f2)) := ⟨g1, g.top, by rw [List.length_map]; exact h.len, fun x hx => by
    obtain ⟨y, hy, rfl⟩ := List.mem_map.1 hx
    exact lift_good (h.all y hy) hq g.top, by rw [lift_map]; exact h.sorted⟩
  have hi' : i < (l.map (lift36 l[i].f2)).length := by rw [List.length_map]; exact hi
  refine ⟨hq, ok_set hmap i hi' _ (by rw [List.getElem_map, lift_f0]) ⟨g.id, g.cost, by show 0 ≤ l[i].f2 + costV l[i].f1; omega, Int.le_refl _, hm, fun _ => by show l[i].f2 ≤ l[i].f2 + costV l[i].f1; omega⟩, fun x hx h3 => ?_⟩
  rcases List.mem_or_eq_of_mem_set hx with hx | rfl
  · obtain ⟨y, hy, rfl⟩ := List.mem_map.1 hx
    exact (lift_good (h.all y hy) hq g.top).act h3
  · show l[i].f2 ≤ l[i].f2 + costV l[i].f1; omega
theorem settle_same {q q1 : Int} {l : List S36} (h : q ≤ q1) (ha : ∃ x ∈ l, x.f3 = true) (hl : ∀ x ∈ l, x.f3 = true → q1 ≤ x.f2) : settleV q l = settleV q1 l := by
  obtain ⟨h1, h2⟩ := fold_step l (0, false)
  have hany : (l.foldl stepF (0, false)).2 = true := by
    rw [h1]
    obtain ⟨x, hx, h3⟩ := ha
    simp only [Bool.false_or, List.any_eq_true]
    exact ⟨x, hx, h3⟩
  obtain ⟨j1, _, j3⟩ := h2 hany
  have hge : q1 ≤ (l.foldl stepF (0, false)).1 := by
    rcases j1 with ⟨e, _⟩ | ⟨x, hx, h3, e⟩
    · cases e
    · rw [e]; exact hl x hx h3
  unfold settleV
  rw [if_pos hany, if_pos hany]
  unfold mx
  split <;> split <;> omega
theorem serve_fine {q : Int} {l : List S36} (id : Int) (h : Ok q l) : Fine q (chV q l id (serveF l)) := by
  refine chV_fine id _ h (fun i hi _ h0 => ?_)
  unfold serveF at h0 ⊢
  rw [rd_get l i hi] at h0 ⊢
  by_cases h3 : l[i].f3 = true
  · rw [if_pos h3] at h0 ⊢
    by_cases hm : 1152921504606846976 < l[i].f2 + costV l[i].f1
    · rw [if_pos hm] at h0; exact absurd h0 (by simp)
    · rw [if_neg hm] at h0 ⊢
      obtain ⟨s1, s2, s3⟩ := serve_ok h i hi h3 (by omega)
      refine ⟨l[i].f2, s1, s2, settle_same s1 ⟨_, List.mem_set (by rw [List.length_map]; exact hi) _, h3⟩ s3⟩
  · rw [if_neg h3] at h0; exact absurd h0 (by simp)
theorem posOf_spec (id : Int) : ∀ (l : List S36), (∀ x ∈ l.take (posOf l id), x.f0 < id) ∧ ((l.map S36.f0).Pairwise (· < ·) → ∀ x ∈ l.drop (posOf l id), id ≤ x.f0)
  | [] => by simp [posOf]
  | x :: l => by
    obtain ⟨i1, i2⟩ := posOf_spec id l
    by_cases h : x.f0 < id
    · have e : posOf (x :: l) id = posOf l id + 1 := by unfold posOf; rw [List.takeWhile_cons, decide_eq_true h]; rfl
      rw [e, List.take_succ_cons, List.drop_succ_cons]
      refine ⟨fun y hy => ?_, fun hs => i2 (by rw [List.map_cons] at hs; exact (List.pairwise_cons.1 hs).2)⟩
      rcases List.mem_cons.1 hy with rfl | hy
      · exact h
      · exact i1 y hy
    · have e : posOf (x :: l) id = 0 := by unfold posOf; rw [List.takeWhile_cons, decide_eq_false h]; rfl
      rw [e]
      refine ⟨by simp, fun hs y hy => ?_⟩
      rw [List.drop_zero] at hy
      rcases List.mem_cons.1 hy with rfl | hy
      · omega
      · rw [List.map_cons] at hs
        have := (List.pairwise_cons.1 hs).1 y.f0 (List.mem_map.2 ⟨y, hy, rfl⟩)
        omega
theorem add_ok {q : Int} {l : List S36} (id n : Int) (h : Ok q l) (hn : costV n ≠ 0) (hid : id ≠ 0) (hx : idxOf l id < 0) (hl : l.length < 192) : Ok q (addL q l id n) := by
  have hc := costV_bd n
  obtain ⟨p1, p2⟩ := posOf_spec id l
  have p2 := p2 h.sorted
  have hne := idx_none hx
  refine ⟨h.lo, h.hi, by rw [addL_len]; omega, fun x hx => ?_, ?_⟩
  · unfold addL at hx
    rw [List.mem_append, List.mem_cons] at hx
    rcases hx with hx | rfl | hx
    · exact h.all x (List.mem_of_mem_take hx)
    · exact ⟨hid, hn, h.lo, by show q ≤ q + costV n; omega, h.hi, fun e => absurd e (by simp)⟩
    · exact h.all x (List.mem_of_mem_drop hx)
  · unfold addL
    rw [List.map_append, List.map_cons]
    have hsp : (l.map S36.f0) = (l.take (posOf l id)).map S36.f0 ++ (l.drop (posOf l id)).map S36.f0 := by rw [← List.map_append, List.take_append_drop]
    have hs := h.sorted
    rw [hsp, List.pairwise_append] at hs
    rw [List.pairwise_append]
    refine ⟨hs.1, List.pairwise_cons.2 ⟨fun y hy => ?_, hs.2.1⟩, fun a ha b hb => ?_⟩
    · obtain ⟨z, hz, rfl⟩ := List.mem_map.1 hy
      have := p2 z hz
      have := hne z (List.mem_of_mem_drop hz)
      show id < z.f0
      omega
    · rcases List.mem_cons.1 hb with rfl | hb
      · obtain ⟨z, hz, rfl⟩ := List.mem_map.1 ha
        exact p1 z hz
      · exact hs.2.2 a ha b hb
theorem add_fine {q : Int} {l : List S36} (id n : Int) (h : Ok q l) : Fine q (addV q l id n) := by
  unfold Fine addV
  rw [if_pos (ok_ck h)]
  by_cases h1 : costV n = 0 ∨ id = 0
  · rw [if_pos h1]; intro e; exact absurd e (by decide)
  · rw [if_neg h1]
    by_cases h2 : 0 ≤ idxOf l id
    · rw [if_pos h2]; intro e; exact absurd e (by decide)
    · rw [if_neg h2]
      by_cases h3 : 192 ≤ l.length
      · rw [if_pos h3]; intro e; exact absurd e (by decide)
      · rw [if_neg h3]
        intro _
        exact settle_ok (add_ok id n h (fun e => h1 (.inl e)) (fun e => h1 (.inr e)) (by omega) (by omega))
/-! ### The dice -/
theorem next_ev (L : List Int) (a n : Int) (hL : L.length ≤ 600) (h0 : 0 ≤ a) (h1 : a ≤ L.length) (hn : n ≤ 1000000) :
    ∃ x a', Ev (fun k => groupcontrolmade_Dice_Next.f k L a n) (x, a') ∧ 0 ≤ x ∧ (1 ≤ n → x < n) ∧ (n < 1 → x = 0) ∧ a ≤ a' ∧ a' ≤ L.length := by
  unfold groupcontrolmade_Dice_Next.f
  by_cases ha : a ≥ (L.length : Int)
  · refine ⟨0, a, Ev.congr (fun k => if_pos ha) (Ev.step (f := fun _ => some (0, a)) (fun k => ?_) (Ev.now _)), Int.le_refl _, fun h => by omega, fun _ => rfl, Int.le_refl _, h1⟩
    simp only [groupcontrolmade_Dice_Next.j0, if_true]
  · by_cases h : n < 1
    · refine ⟨0, a, Ev.congr (fun k => if_neg ha) (Ev.step (f := fun _ => some (0, a)) (fun k => ?_) (Ev.now _)), Int.le_refl _, fun h => by omega, fun _ => rfl, Int.le_refl _, h1⟩
      simp only [groupcontrolmade_Dice_Next.j0, decide_eq_true h, if_true]
    · have w1 : wrap64 (a + 1) = a + 1 := by unfold wrap64; omega
      have w2 : wrap64 (a + 1 - 1) = a := by unfold wrap64; omega
      obtain ⟨t, ht⟩ : ∃ t, Int.tmod (rd L a) n = t := ⟨_, rfl⟩
      have hlt : t < n := by rw [← ht]; exact Int.tmod_lt_of_pos _ (by omega)
      have hgt : -n < t := by
        have := Int.lt_tmod_of_pos (rd L a) (show 0 < n by omega)
        rw [← ht]; exact this
      by_cases hneg : t < 0
      · have w3 : wrap64 (t + n) = t + n := by unfold wrap64; omega
        refine ⟨t + n, a + 1, Ev.congr (fun k => if_neg ha) (Ev.step (f := fun _ => some (t + n, a + 1)) (fun k => ?_) (Ev.now _)), by omega, fun _ => by omega, fun h' => absurd h' h, by omega, by omega⟩
        simp only [groupcontrolmade_Dice_Next.j0, decide_eq_false h, w1, w2, ht]
        rw [if_neg (by decide), if_pos h0, if_pos (by omega), if_neg (by omega), if_pos hneg, w3]
      · refine ⟨t, a + 1, Ev.congr (fun k => if_neg ha) (Ev.step (f := fun _ => some (t, a + 1)) (fun k => ?_) (Ev.now _)), by omega, fun _ => by omega, fun h' => absurd h' h, by omega, by omega⟩
        simp only [groupcontrolmade_Dice_Next.j0, decide_eq_false h, w1, w2, ht]
        rw [if_neg (by decide), if_pos h0, if_pos (by omega), if_neg (by omega), if_neg hneg]
end Go.Proofs.Ytancnonigponaaa.Pure
