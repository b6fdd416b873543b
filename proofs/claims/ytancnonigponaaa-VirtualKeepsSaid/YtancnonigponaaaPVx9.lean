/- Contracts of functions of the program and of its references, over the translation, for values that can be read as data: each call comes to what a Lean function says. Written by the kit's printer and a program of this session's, with hand-made contracts spliced in. -/
import Derived.Test.YtancnonigponaaaPVx0
import Derived.Test.YtancnonigponaaaPVx4
import Derived.Test.YtancnonigponaaaPVx5
import Derived.Test.YtancnonigponaaaPVx6
import Derived.Test.YtancnonigponaaaPVx7
import Derived.Test.YtancnonigponaaaPVx8
namespace Go.Proofs.Ytancnonigponaaa.PV
open Go.RowKit Go.Proofs.YtancnonigponaaaW.PrintWords Go.Proofs.YtancnonigponaaaW.PrintLast Go.Proofs.YtancnonigponaaaW.PrintMore
set_option linter.unusedVariables false
set_option linter.unusedSimpArgs false

/-! ### virtual_change: function 44 (by hand) -/
attribute [local go_sem] max2_int min2_int max_two min_two
set_option linter.unusedVariables false

/-- An item as its four cells. -/
def cs36 (x : S36) : List Value := [.int .i64 x.f0, .int .i64 x.f1, .int .i64 x.f2, .bool x.f3]
theorem rowV_open {W : World} {base : Nat} {ok : Nat → Prop} {v : Value} {l : List S36} (h : Kd.R k36 36 W base ok v l) (i : Nat) (hi : i < l.length) :
    ∃ g cap, v = .slice (some ⟨g, 0, none⟩) l.length cap ∧ l.length ≤ cap ∧ base ≤ g ∧ g < W.heap.size ∧ ok g ∧
      (∀ i : Nat, i < l.length → (∀ j u, (cs36 (rd_T36 l i))[j]? = some u → W.cell? ⟨g, i * 4 + j, none⟩ = some u) ∧ ∀ j, W.frozen? ⟨g, i * 4 + j, none⟩ = false) := by
  obtain ⟨g, cap, rfl, hb, hg, cells, hc⟩ := Kd.R_form h (by omega)
  obtain ⟨_, hcap, _⟩ := Kd.R_reads' h
  refine ⟨g, cap, rfl, hcap, hb, hg, h.1 g (by simp [Value.ownBlock]), fun i hi => ?_⟩
  obtain ⟨c, hl, hM, hcc, hf⟩ := Kd.R_elem h z36 (i : Int) (by omega) (by omega)
  have e := k36_openM hM
  subst e
  exact ⟨hcc, hf⟩
theorem rowV_at {W : World} {base : Nat} {ok : Nat → Prop} {g n cap : Nat} {l : List S36} (h : Kd.R k36 36 W base ok (.slice (some ⟨g, 0, none⟩) n cap) l) (i : Nat) (hi : i < l.length) :
    (∀ j u, (cs36 (rd_T36 l i))[j]? = some u → W.cell? ⟨g, i * 4 + j, none⟩ = some u) ∧ ∀ j, W.frozen? ⟨g, i * 4 + j, none⟩ = false := by
  have hn : n = l.length := (Kd.R_reads' h).1
  obtain ⟨c, hl, hM, hcc, hf⟩ := Kd.R_elem h z36 (i : Int) (by omega) (by omega)
  have e := k36_openM hM
  subst e
  exact ⟨hcc, hf⟩
theorem rowV_put {W : World} {base : Nat} {ok : Nat → Prop} {g n cap : Nat} {l : List S36} (h : Kd.R k36 36 W base ok (.slice (some ⟨g, 0, none⟩) n cap) l) (i : Nat) (hi : i < l.length) (j : Nat) (hj : j < 4) (u : Value) (x' : S36)
    (hx : cs36 x' = (cs36 (rd_T36 l i)).set j u) : Kd.R k36 36 (W.setCell ⟨g, i * 4 + j, none⟩ u) base ok (.slice (some ⟨g, 0, none⟩) n cap) (l.set i x') ∧ W.grownBy (W.setCell ⟨g, i * 4 + j, none⟩ u) (some g) := by
  have hn : n = l.length := (Kd.R_reads' h).1
  obtain ⟨c, hl, hM, hcc, hf⟩ := Kd.R_elem h z36 (i : Int) (by omega) (by omega)
  have e := k36_openM hM
  subst e
  have hm : k36.M W base (fun _ => False) x' (cs36 x') := k36_mkM W base _ x'
  have key := Kd.R_seg (okp := fun _ => False) h (i : Int) (by omega) (by omega) (seg := [u]) (j := j) (x' := x') rfl hcc (by show j + 1 ≤ 4; omega) (by
    rw [hx] at hm
    have : (cs36 (rd_T36 l i)).set j u = List.take j [Value.int .i64 (List.getD l (i : Int).toNat z36).f0, .int .i64 (List.getD l (i : Int).toNat z36).f1, .int .i64 (List.getD l (i : Int).toNat z36).f2, .bool (List.getD l (i : Int).toNat z36).f3] ++ [u] ++ List.drop (j + 1) [Value.int .i64 (List.getD l (i : Int).toNat z36).f0, .int .i64 (List.getD l (i : Int).toNat z36).f1, .int .i64 (List.getD l (i : Int).toNat z36).f2, .bool (List.getD l (i : Int).toNat z36).f3] := by
      match j, hj with
      | 0, _ => rfl
      | 1, _ => rfl
      | 2, _ => rfl
      | 3, _ => rfl
    rw [this] at hm
    exact hm) (fun k hk => hk.elim)
  exact key
/-- What a closure leaves: the queue's cell, its row. -/
def DoW (w0 w' : World) (B : Nat) (q : Int) (l' : List S36) : Prop := ∃ v', w'.heap[B]? = some (.cells #[.int .i64 q, v'] 29 (0, 0)) ∧ Kd.R k36 36 w' w0.heap.size (fun k => k ≠ B) v' l' ∧ Below w0.heap.size w0 w'
/-- What a closure does to a queue at a place. -/
def DoIs (fd : FuncId) (caps : Array Value) (w0 : World) (q : Int) (l : List S36) (i : Nat) (F : Int × List S36) : Prop :=
  ∀ (W : World) (B : Nat) (v : Value), w0.heap.size ≤ B → Below w0.heap.size w0 W → W.heap[B]? = some (.cells #[.int .i64 q, v] 29 (0, 0)) → Kd.R k36 36 W w0.heap.size (fun k => k ≠ B) v l →
    Calls Try.prog fd (#[.pointer (some ⟨B, 0, none⟩), .int .i64 i] ++ caps) W fun e w' => e = .returned (.int .i64 F.1) ∧ DoW w0 w' B q F.2

theorem doW_put {w0 W : World} {B : Nat} {q : Int} {l : List S36} {i : Nat} {g cap n : Nat} (hi : i < l.length) (hB : w0.heap.size ≤ B) (hbg : w0.heap.size ≤ g) (hok : g ≠ B)
    (hQ : W.heap[B]? = some (.cells #[.int .i64 q, .slice (some ⟨g, 0, none⟩) n cap] 29 (0, 0))) (hR : Kd.R k36 36 W w0.heap.size (fun k => k ≠ B) (.slice (some ⟨g, 0, none⟩) n cap) l) (hb : Below w0.heap.size w0 W)
    (j : Nat) (hj : j < 4) (u : Value) (x' : S36) (hx : cs36 x' = (cs36 (rd_T36 l i)).set j u) :
    (W.setCell ⟨g, i * 4 + j, none⟩ u).heap[B]? = some (.cells #[.int .i64 q, .slice (some ⟨g, 0, none⟩) n cap] 29 (0, 0)) ∧ Kd.R k36 36 (W.setCell ⟨g, i * 4 + j, none⟩ u) w0.heap.size (fun k => k ≠ B) (.slice (some ⟨g, 0, none⟩) n cap) (l.set i x') ∧ Below w0.heap.size w0 (W.setCell ⟨g, i * 4 + j, none⟩ u) := by
  obtain ⟨h1, h2⟩ := rowV_put hR i hi j hj u x' hx
  exact ⟨(Below.heap_setCell W _ u B (by exact fun e => hok e.symm)).trans hQ, h1, below_set hb hbg⟩
theorem rd_set36 (l : List S36) (i : Nat) (x : S36) (hi : i < l.length) : rd_T36 (l.set i x) i = x := by
  unfold rd_T36
  simp only [Int.toNat_natCast, List.getD_eq_getElem?_getD]
  rw [List.getElem?_set_self hi]; rfl
def sleepF (l : List S36) (i : Nat) : Int × List S36 := if (rd_T36 l i).f3 then (0, l.set i { rd_T36 l i with f3 := false }) else (9, l)
theorem sleep_do (w0 : World) (q : Int) (l : List S36) (i : Nat) (hi : i < l.length) : DoIs 52 #[] w0 q l i (sleepF l i) := by
  intro W B v hB hb hQ hR
  obtain ⟨g, cap, rfl, hcap, hbg, hg, hok, hE⟩ := rowV_open hR i hi
  have hbig : l.length ≤ 9223372036854775807 := by
    obtain ⟨_, _, hC⟩ := Kd.R_reads' hR
    exact hC.2.1
  obtain ⟨hcell, hfz⟩ := hE i hi
  have c3 : W.cell? ⟨g, i * 4 + 3, none⟩ = some (.bool (rd_T36 l i).f3) := hcell 3 _ rfl
  have z3 := hfz 3
  have q1 : W.cell? ⟨B, 1, none⟩ = some (.slice (some ⟨g, 0, none⟩) l.length cap) := (blk_cell hQ 1).trans rfl
  have hiz : (i : Int) < (l.length : Int) := by omega
  have HR := Aside0.mk hR
  have HQ := Aside0.mk hQ
  have HB := Aside0.mk hb
  clear hcell hfz hR hQ hE hb
  cases hf : (rd_T36 l i).f3 with
  | true =>
    rw [hf] at c3
    have HF := Aside0.mk hf
    clear hf
    go_enter Try.func52, Try.ntmps52
    go_wp2
    go_ret
    refine ⟨by unfold sleepF; rw [HF.out]; rfl, ?_⟩
    unfold sleepF
    rw [HF.out]
    exact ⟨_, doW_put hi hB hbg hok HQ.out HR.out HB.out 3 (by omega) _ _ rfl⟩
  | false =>
    rw [hf] at c3
    have HF := Aside0.mk hf
    clear hf
    go_enter Try.func52, Try.ntmps52
    go_wp2
    go_ret
    refine ⟨by unfold sleepF; rw [HF.out]; rfl, ?_⟩
    unfold sleepF
    rw [HF.out]
    exact ⟨_, HQ.out, HR.out, HB.out⟩
def wakeF (q : Int) (l : List S36) (i : Nat) : Int × List S36 := if (rd_T36 l i).f3 then (9, l) else (0, l.set i { rd_T36 l i with f2 := mx (rd_T36 l i).f2 q, f3 := true })
set_option maxHeartbeats 4000000 in
theorem wake_do (w0 : World) (q : Int) (l : List S36) (i : Nat) (hi : i < l.length) : DoIs 45 #[] w0 q l i (wakeF q l i) := by
  intro W B v hB hb hQ hR
  obtain ⟨g, cap, rfl, hcap, hbg, hg, hok, hE⟩ := rowV_open hR i hi
  have hbig : l.length ≤ 9223372036854775807 := by
    obtain ⟨_, _, hC⟩ := Kd.R_reads' hR
    exact hC.2.1
  obtain ⟨hcell, hfz⟩ := hE i hi
  have c3 : W.cell? ⟨g, i * 4 + 3, none⟩ = some (.bool (rd_T36 l i).f3) := hcell 3 _ rfl
  have c2 : W.cell? ⟨g, i * 4 + 2, none⟩ = some (.int .i64 (rd_T36 l i).f2) := hcell 2 _ rfl
  have z3 := hfz 3
  have z2 := hfz 2
  have q1 : W.cell? ⟨B, 1, none⟩ = some (.slice (some ⟨g, 0, none⟩) l.length cap) := (blk_cell hQ 1).trans rfl
  have q0 : W.cell? ⟨B, 0, none⟩ = some (.int .i64 q) := (blk_cell hQ 0).trans rfl
  have hiz : (i : Int) < (l.length : Int) := by omega
  have HR := Aside0.mk hR
  have HQ := Aside0.mk hQ
  have HB := Aside0.mk hb
  clear hcell hfz hR hQ hE hb
  cases hf : (rd_T36 l i).f3 with
  | true =>
    rw [hf] at c3
    have HF := Aside0.mk hf
    clear hf
    go_enter Try.func45, Try.ntmps45
    go_wp2
    go_ret
    refine ⟨by unfold wakeF; rw [HF.out]; rfl, ?_⟩
    unfold wakeF
    rw [HF.out]
    exact ⟨_, HQ.out, HR.out, HB.out⟩
  | false =>
    rw [hf] at c3
    have HF := Aside0.mk hf
    clear hf
    go_enter Try.func45, Try.ntmps45
    go_wp2
    go_region
    all_goals go_wp2
    all_goals go_ret
    all_goals refine ⟨by unfold wakeF; rw [HF.out]; rfl, ?_⟩
    all_goals unfold wakeF
    all_goals rw [HF.out]
    all_goals
      obtain ⟨p1, p2, p3⟩ := doW_put hi hB hbg hok HQ.out HR.out HB.out 3 (by omega) (.bool true) { rd_T36 l i with f3 := true } rfl
      have hi2 : i < (l.set i { rd_T36 l i with f3 := true }).length := by rw [List.length_set]; exact hi
    · have hm : mx (rd_T36 l i).f2 q = q := by unfold mx; exact if_pos (by assumption)
      obtain ⟨s1, s2, s3⟩ := doW_put hi2 hB hbg hok p1 p2 p3 2 (by omega) (.int .i64 q) { rd_T36 l i with f2 := mx (rd_T36 l i).f2 q, f3 := true } (by rw [rd_set36 _ _ _ hi, hm]; rfl)
      rw [List.set_set] at s2
      exact ⟨_, s1, Kd.R_drew s2, below_drew1 s3⟩
    · have hm : mx (rd_T36 l i).f2 q = (rd_T36 l i).f2 := by unfold mx; exact if_neg (by omega)
      obtain ⟨s1, s2, s3⟩ := doW_put hi2 hB hbg hok p1 p2 p3 2 (by omega) (.int .i64 (rd_T36 l i).f2) { rd_T36 l i with f2 := mx (rd_T36 l i).f2 q, f3 := true } (by rw [rd_set36 _ _ _ hi, hm]; rfl)
      rw [List.set_set] at s2
      exact ⟨_, s1, Kd.R_drew s2, below_drew1 s3⟩

/-- An item, if active, is lifted to a time. -/
def lift36 (v : Int) (x : S36) : S36 := if x.f3 then { x with f2 := mx x.f2 v } else x
def lifted (v : Int) (k : Nat) (l : List S36) : List S36 := (l.take k).map (lift36 v) ++ l.drop k
theorem lifted_len (v : Int) (k : Nat) (l : List S36) : (lifted v k l).length = l.length := by
  unfold lifted
  rw [List.length_append, List.length_map, List.length_take, List.length_drop]
  omega
theorem lifted_rd (v : Int) (k j : Nat) (l : List S36) (hj : j < l.length) : rd_T36 (lifted v k l) j = if j < k then lift36 v (rd_T36 l j) else rd_T36 l j := by
  unfold rd_T36 lifted
  simp only [Int.toNat_natCast, List.getD_eq_getElem?_getD]
  by_cases h : j < k
  · rw [if_pos h, List.getElem?_append_left (by rw [List.length_map, List.length_take]; omega), List.getElem?_map, List.getElem?_take, if_pos h, List.getElem?_eq_getElem hj]; rfl
  · rw [if_neg h, List.getElem?_append_right (by rw [List.length_map, List.length_take]; omega), List.length_map, List.length_take, List.getElem?_drop]
    rw [show k + (j - min k l.length) = j by omega]
theorem lifted_step (v : Int) (k : Nat) (l : List S36) (hk : k < l.length) : lifted v (k + 1) l = (lifted v k l).set k (lift36 v (rd_T36 l k)) := by
  refine List.ext_getElem (by rw [List.length_set, lifted_len, lifted_len]) (fun j h1 h2 => ?_)
  have hj : j < l.length := by rw [lifted_len] at h1; exact h1
  have e1 : (lifted v (k + 1) l)[j] = rd_T36 (lifted v (k + 1) l) j := by unfold rd_T36; simp only [Int.toNat_natCast, List.getD_eq_getElem?_getD, List.getElem?_eq_getElem h1, Option.getD_some]
  have e2 : ((lifted v k l).set k (lift36 v (rd_T36 l k)))[j] = if k = j then lift36 v (rd_T36 l k) else rd_T36 (lifted v k l) j := by
    rw [List.getElem_set]
    split
    · rfl
    · have h3 : j < (lifted v k l).length := by rw [lifted_len]; exact hj
      unfold rd_T36; simp only [Int.toNat_natCast, List.getD_eq_getElem?_getD, List.getElem?_eq_getElem h3, Option.getD_some]
  rw [e1, e2, lifted_rd _ _ _ _ hj, lifted_rd _ _ _ _ hj]
  by_cases e : k = j
  · subst e; rw [if_pos (by omega), if_pos rfl]
  · rw [if_neg e]
    by_cases h : j < k
    · rw [if_pos (by omega), if_pos h]
    · rw [if_neg (by omega), if_neg h]
def serveF (l : List S36) (i : Nat) : Int × List S36 :=
  if (rd_T36 l i).f3 then (if 1152921504606846976 < (rd_T36 l i).f2 + costV (rd_T36 l i).f1 then (7, l) else (0, (l.map (lift36 (rd_T36 l i).f2)).set i { rd_T36 l i with f2 := (rd_T36 l i).f2 + costV (rd_T36 l i).f1 })) else (9, l)
set_option maxHeartbeats 400000 in
theorem cost_same (x : Int) (w : World) : Calls Try.prog 28 #[.int .i64 x] w fun e w' => e = .returned (.int .i64 (costV x)) ∧ w' = w := by
  by_cases h1 : x < 1
  · have e : Aside0 (costV x = 0) := ⟨by unfold costV; rw [if_pos (.inl h1)]⟩
    have h1b : decide (x < 1) = true := decide_eq_true h1
    go_enter Try.func28, Try.ntmps28
    go_wp2
    go_ret
    exact ⟨by rw [e.out]; rfl, rfl⟩
  · have h1b : decide (x < 1) = false := decide_eq_false h1
    by_cases h2 : 10000 < x
    · have e : Aside0 (costV x = 0) := ⟨by unfold costV; rw [if_pos (.inr h2)]⟩
      have h2b : decide (10000 < x) = true := decide_eq_true h2
      go_enter Try.func28, Try.ntmps28
      go_wp2
      go_ret
      exact ⟨by rw [e.out]; rfl, rfl⟩
    · have h2b : decide (10000 < x) = false := decide_eq_false h2
      have e : Aside0 (costV x = (1073741823 + x) / x) := ⟨by unfold costV; rw [if_neg (by omega)]⟩
      have b0 : 0 ≤ (1073741823 + x) / x := Int.ediv_nonneg (by omega) (by omega)
      have b1 : (1073741823 + x) / x ≤ 1073741823 + x := Int.ediv_le_self _ (by omega)
      have hx0 : ¬ x = 0 := by omega
      go_enter Try.func28, Try.ntmps28
      go_wp2
      go_ret
      exact ⟨by rw [e.out, show 1073741823 + x = 1073741824 + x - 1 by omega]; rfl, rfl⟩

theorem cost_q (x : Int) (w : World) (n : Nat) : Calls Try.prog 28 #[.int .i64 x] (w.drewN n) fun e w' => e = .returned (.int .i64 (costV x)) ∧ ∃ m, w' = w.drewN m :=
  (cost_same x _).mono fun _ _ ⟨he, hd⟩ => ⟨he, n, hd⟩
theorem lift_self (v : Int) (x : S36) (h : x.f2 = v) : lift36 v x = x := by
  unfold lift36
  split
  · have : mx x.f2 v = x.f2 := by unfold mx; rw [if_neg (by omega)]
    rw [this]
  · rfl
set_option maxHeartbeats 8000000 in
theorem serve_do (w0 : World) (q : Int) (l : List S36) (i : Nat) (hi : i < l.length) (hck : 0 ≤ (rd_T36 l i).f2 ∧ (rd_T36 l i).f2 ≤ 1152921504606846976) : DoIs 47 #[] w0 q l i (serveF l i) := by
  intro W B v hB hb hQ hR
  obtain ⟨g, cap, rfl, hcap, hbg, hg, hok, hE⟩ := rowV_open hR i hi
  have hbig : l.length ≤ 9223372036854775807 := by
    obtain ⟨_, _, hC⟩ := Kd.R_reads' hR
    exact hC.2.1
  obtain ⟨hcell, hfz⟩ := hE i hi
  have c3 : W.cell? ⟨g, i * 4 + 3, none⟩ = some (.bool (rd_T36 l i).f3) := hcell 3 _ rfl
  have c2 : W.cell? ⟨g, i * 4 + 2, none⟩ = some (.int .i64 (rd_T36 l i).f2) := hcell 2 _ rfl
  have c1 : W.cell? ⟨g, i * 4 + 1, none⟩ = some (.int .i64 (rd_T36 l i).f1) := hcell 1 _ rfl
  have q1 : W.cell? ⟨B, 1, none⟩ = some (.slice (some ⟨g, 0, none⟩) l.length cap) := (blk_cell hQ 1).trans rfl
  have q0 : W.cell? ⟨B, 0, none⟩ = some (.int .i64 q) := (blk_cell hQ 0).trans rfl
  have hiz : (i : Int) < (l.length : Int) := by omega
  have HR := Aside0.mk hR
  have HQ := Aside0.mk hQ
  have HB := Aside0.mk hb
  clear hcell hfz hR hQ hE hb
  have hcb := costV_bd (rd_T36 l i).f1
  obtain ⟨hk0, hk1⟩ := hck
  have hwr : IntKind.i64.wrap ((rd_T36 l i).f2 + costV (rd_T36 l i).f1) = (rd_T36 l i).f2 + costV (rd_T36 l i).f1 := by rw [IntKind.wrap_i64]; omega
  have HWR := Aside0.mk hwr
  cases hf : (rd_T36 l i).f3 with
  | false =>
    rw [hf] at c3
    have HF := Aside0.mk hf
    clear hf
    go_enter Try.func47, Try.ntmps47
    go_wp2
    go_ret
    refine ⟨by unfold serveF; rw [HF.out]; rfl, ?_⟩
    unfold serveF
    rw [HF.out]
    exact ⟨_, HQ.out, HR.out, HB.out⟩
  | true =>
    rw [hf] at c3
    have HF := Aside0.mk hf
    clear hf
    by_cases hm : 1152921504606846976 < (rd_T36 l i).f2 + costV (rd_T36 l i).f1
    · have hmb : decide (1152921504606846976 < (rd_T36 l i).f2 + costV (rd_T36 l i).f1) = true := decide_eq_true hm
      have E : Aside0 (serveF l i = (7, l)) := ⟨by unfold serveF; rw [HF.out, if_pos rfl, if_pos hm]⟩
      clear hm
      go_enter Try.func47, Try.ntmps47
      go_wp2
      go_quiet ((go_at_call 28; exact cost_q _ _ _))
      go_wp2
      go_ret
      rw [E.out]
      exact ⟨rfl, _, HQ.out, Kd.R_drewN HR.out _, pw_below_drewN HB.out _⟩
    · have hmb : decide (1152921504606846976 < (rd_T36 l i).f2 + costV (rd_T36 l i).f1) = false := decide_eq_false hm
      have E : Aside0 (serveF l i = (0, (l.map (lift36 (rd_T36 l i).f2)).set i { rd_T36 l i with f2 := (rd_T36 l i).f2 + costV (rd_T36 l i).f1 })) := ⟨by unfold serveF; rw [HF.out, if_pos rfl, if_neg hm]⟩
      clear hm
      obtain ⟨v, hv⟩ : ∃ v, (rd_T36 l i).f2 = v := ⟨_, rfl⟩
      have HV := Aside0.mk hv
      rw [hv] at c2 hmb hwr hk0 hk1
      clear hv HWR
      go_enter Try.func47, Try.ntmps47
      go_wp2
      go_quiet ((go_at_call 28; exact cost_q _ _ _))
      go_wp2
      clear hmb
      go_loopg [36] l.length (fun gg s36 wr => ∃ kk : Nat, kk ≤ l.length ∧ l.length - kk ≤ gg ∧ s36 = .int .i64 kk ∧ Aside0 (wr.heap[B]? = some (.cells #[.int .i64 q, .slice (some ⟨g, 0, none⟩) l.length cap] 29 (0, 0)) ∧ Kd.R k36 36 wr w0.heap.size (fun k => k ≠ B) (.slice (some ⟨g, 0, none⟩) l.length cap) (lifted v kk l) ∧ Below w0.heap.size w0 wr))
      case atStart => exact ⟨0, Nat.zero_le _, by omega, rfl, ⟨HQ.out, by unfold lifted; exact Kd.R_drewN HR.out _, pw_below_drewN HB.out _⟩⟩
      case round =>
        obtain ⟨kk, hkk, hgg, rfl, INV⟩ := hrel
        clear c1 c2 c3 q0 q1
        by_cases hlt : kk < l.length
        · have hltz : (kk : Int) < (l.length : Int) := by omega
          obtain ⟨i1, i2, i3⟩ := INV.out
          have hle := lifted_len v kk l
          obtain ⟨k1, k2⟩ := rowV_at i2 kk (by omega)
          obtain ⟨x1, x2⟩ := rowV_at i2 i (by omega)
          have ek : rd_T36 (lifted v kk l) kk = rd_T36 l kk := by rw [lifted_rd _ _ _ _ hlt, if_neg (by omega)]
          have ei : (rd_T36 (lifted v kk l) i).f2 = v := by
            rw [lifted_rd _ _ _ _ hi]
            split
            · rw [lift_self _ _ HV.out]; exact HV.out
            · exact HV.out
          rw [ek] at k1
          have c3 : wr.cell? ⟨g, kk * 4 + 3, none⟩ = some (.bool (rd_T36 l kk).f3) := k1 3 _ rfl
          have c2 : wr.cell? ⟨g, kk * 4 + 2, none⟩ = some (.int .i64 (rd_T36 l kk).f2) := k1 2 _ rfl
          have d2 : wr.cell? ⟨g, i * 4 + 2, none⟩ = some (.int .i64 v) := by rw [← ei]; exact x1 2 _ rfl
          have z2 := k2 2
          have q1 : wr.cell? ⟨B, 1, none⟩ = some (.slice (some ⟨g, 0, none⟩) l.length cap) := (blk_cell i1 1).trans rfl
          clear k1 k2 x1 x2 hle i1 i2 i3 ek ei
          cases ha : (rd_T36 l kk).f3 with
          | false =>
            rw [ha] at c3
            have HA := Aside0.mk ha
            clear ha
            go_wp2
            go_roundg (l.length - (kk + 1))
            case measure => omega
            case rel =>
              refine ⟨kk + 1, by omega, by omega, by go_num, ⟨INV.out.1, ?_, INV.out.2.2⟩⟩
              have e : lifted v (kk + 1) l = lifted v kk l := by
                have hk : kk < (lifted v kk l).length := by rw [lifted_len]; exact hlt
                have er : rd_T36 (lifted v kk l) kk = (lifted v kk l)[kk] := by unfold rd_T36; simp only [Int.toNat_natCast, List.getD_eq_getElem?_getD, List.getElem?_eq_getElem hk, Option.getD_some]
                rw [lifted_step _ _ _ hlt, show lift36 v (rd_T36 l kk) = (lifted v kk l)[kk] by rw [← er, lifted_rd _ _ _ _ hlt, if_neg (by omega)]; unfold lift36; rw [HA.out]; rfl, List.set_getElem_self]
              rw [e]
              exact INV.out.2.1
          | true =>
            rw [ha] at c3
            have HA := Aside0.mk ha
            clear ha
            go_wp2
            go_region
            all_goals go_wp2
            all_goals go_roundg (l.length - (kk + 1))
            all_goals first | (case measure => omega) | skip
            · have hm : mx (rd_T36 l kk).f2 v = v := by unfold mx; exact if_pos (by assumption)
              have er : rd_T36 (lifted v kk l) kk = rd_T36 l kk := by rw [lifted_rd _ _ _ _ hlt, if_neg (by omega)]
              obtain ⟨s1, s2, s3⟩ := doW_put (i := kk) (by rw [lifted_len]; exact hlt) hB hbg hok INV.out.1 INV.out.2.1 INV.out.2.2 2 (by omega) (.int .i64 v) (lift36 v (rd_T36 l kk)) (by rw [er]; unfold lift36; rw [HA.out, if_pos rfl, hm]; unfold cs36; rw [HA.out]; rfl)
              rw [← lifted_step _ _ _ hlt] at s2
              exact ⟨kk + 1, by omega, by omega, by go_num, ⟨s1, Kd.R_drew s2, below_drew1 s3⟩⟩
            · have hm : mx (rd_T36 l kk).f2 v = (rd_T36 l kk).f2 := by unfold mx; exact if_neg (by omega)
              have er : rd_T36 (lifted v kk l) kk = rd_T36 l kk := by rw [lifted_rd _ _ _ _ hlt, if_neg (by omega)]
              obtain ⟨s1, s2, s3⟩ := doW_put (i := kk) (by rw [lifted_len]; exact hlt) hB hbg hok INV.out.1 INV.out.2.1 INV.out.2.2 2 (by omega) (.int .i64 (rd_T36 l kk).f2) (lift36 v (rd_T36 l kk)) (by rw [er]; unfold lift36; rw [HA.out, if_pos rfl, hm]; unfold cs36; rw [HA.out]; rfl)
              rw [← lifted_step _ _ _ hlt] at s2
              exact ⟨kk + 1, by omega, by omega, by go_num, ⟨s1, Kd.R_drew s2, below_drew1 s3⟩⟩
        · have hltz : ¬ (kk : Int) < (l.length : Int) := by omega
          have hk : kk = l.length := by omega
          subst hk
          obtain ⟨i1, i2, i3⟩ := INV.out
          obtain ⟨x1, x2⟩ := rowV_at i2 i (by rw [lifted_len]; exact hi)
          have ei : rd_T36 (lifted v l.length l) i = rd_T36 l i := by
            rw [lifted_rd _ _ _ _ hi, if_pos hi, lift_self _ _ HV.out]
          rw [ei] at x1
          have c2 : wr.cell? ⟨g, i * 4 + 2, none⟩ = some (.int .i64 v) := by rw [← HV.out]; exact x1 2 _ rfl
          have c1 : wr.cell? ⟨g, i * 4 + 1, none⟩ = some (.int .i64 (rd_T36 l i).f1) := x1 1 _ rfl
          have z2 := x2 2
          clear x1 x2 ei i1 i2 i3
          go_wp2
          trace "tail"
          refine wp_region_still_tail 12 (by kernel_rfl) (by kernel_rfl) ?_
          trace "tail2"
          simp only [List.take_succ_cons, List.take_zero, List.drop_succ_cons, List.drop_zero]
          repeat (first | still_step | still_call (cost_same _ _))
          refine wpStill_nil ?_
          change wpList _ _ _ _ _ wr.drew
          go_wp2
          go_ret
          have er : rd_T36 (lifted v l.length l) i = rd_T36 l i := by rw [lifted_rd _ _ _ _ hi, if_pos hi, lift_self _ _ HV.out]
          obtain ⟨s1, s2, s3⟩ := doW_put (i := i) (by rw [lifted_len]; exact hi) hB hbg hok INV.out.1 INV.out.2.1 INV.out.2.2 2 (by omega) (.int .i64 (v + costV (rd_T36 l i).f1)) { rd_T36 l i with f2 := (rd_T36 l i).f2 + costV (rd_T36 l i).f1 } (by rw [er, HV.out]; rfl)
          have el : lifted v l.length l = l.map (lift36 v) := by unfold lifted; rw [List.take_length, List.drop_length, List.append_nil]
          rw [el] at s2
          rw [E.out, HV.out]
          rw [HV.out] at s2
          exact ⟨rfl, _, s1, Kd.R_drew s2, below_drew1 s3⟩


def rwV (q : Int) (x : S36) (n : Int) : Int := if q < x.f2 then (if 1152921504606846976 < q + (x.f2 - q) * costV n / costV x.f1 then 1152921504606846976 else q + (x.f2 - q) * costV n / costV x.f1) else x.f2
def reweightF (q n : Int) (l : List S36) (i : Nat) : Int × List S36 := (0, l.set i { rd_T36 l i with f1 := n, f2 := rwV q (rd_T36 l i) n })
set_option maxHeartbeats 8000000 in
theorem reweight_do (w0 : World) (q n : Int) (C : Nat) (hC : C < w0.heap.size) (hCn : w0.cell? ⟨C, 0, none⟩ = some (.int .i64 n)) (l : List S36) (i : Nat) (hi : i < l.length)
    (hq : 0 ≤ q ∧ q ≤ 1152921504606846976) (hc : costV (rd_T36 l i).f1 ≠ 0) (hv : 0 ≤ (rd_T36 l i).f2 ∧ (rd_T36 l i).f2 ≤ 1152921504606846976 ∧ (rd_T36 l i).f2 ≤ q + costV (rd_T36 l i).f1) : DoIs 53 #[.pointer (some ⟨C, 0, none⟩)] w0 q l i (reweightF q n l i) := by
  intro W B v hB hb hQ hR
  obtain ⟨g, cap, rfl, hcap, hbg, hg, hok, hE⟩ := rowV_open hR i hi
  have hbig : l.length ≤ 9223372036854775807 := by
    obtain ⟨_, _, hC⟩ := Kd.R_reads' hR
    exact hC.2.1
  obtain ⟨hcell, hfz⟩ := hE i hi
  have c2 : W.cell? ⟨g, i * 4 + 2, none⟩ = some (.int .i64 (rd_T36 l i).f2) := hcell 2 _ rfl
  have c1 : W.cell? ⟨g, i * 4 + 1, none⟩ = some (.int .i64 (rd_T36 l i).f1) := hcell 1 _ rfl
  have z2 := hfz 2
  have z1 := hfz 1
  have q1 : W.cell? ⟨B, 1, none⟩ = some (.slice (some ⟨g, 0, none⟩) l.length cap) := (blk_cell hQ 1).trans rfl
  have q0 : W.cell? ⟨B, 0, none⟩ = some (.int .i64 q) := (blk_cell hQ 0).trans rfl
  have cC : W.cell? ⟨C, 0, none⟩ = some (.int .i64 n) := (hb.cell (p := ⟨C, 0, none⟩) hC).trans hCn
  have hCg : C ≠ g := by omega
  have hiz : (i : Int) < (l.length : Int) := by omega
  have HR := Aside0.mk hR
  have HQ := Aside0.mk hQ
  have HB := Aside0.mk hb
  have HX : Aside0 (∀ f2', (l.set i { rd_T36 l i with f2 := f2' }).length = l.length) := ⟨fun _ => List.length_set⟩
  clear hcell hfz hR hQ hE hb
  obtain ⟨x, hx⟩ : ∃ x, rd_T36 l i = x := ⟨_, rfl⟩
  rw [hx] at c1 c2 hc hv
  have HXE := Aside0.mk hx
  clear hx
  have hcb := costV_bd x.f1
  have hnb := costV_bd n
  obtain ⟨hv0, hv1, hv2⟩ := hv
  by_cases hlt : q < x.f2
  · have hltb : decide (q < x.f2) = true := decide_eq_true hlt
    have hp0 : 0 ≤ (x.f2 - q) * costV n := Int.mul_nonneg (by omega) (by omega)
    have hp1 : (x.f2 - q) * costV n ≤ 1073751823 * 1073751823 := Int.mul_le_mul (by omega) (by omega) (by omega) (by omega)
    have hd0 : 0 ≤ (x.f2 - q) * costV n / costV x.f1 := Int.ediv_nonneg hp0 (by omega)
    have hd1 : (x.f2 - q) * costV n / costV x.f1 ≤ (x.f2 - q) * costV n := Int.ediv_le_self _ hp0
    have w1 : IntKind.i64.wrap (x.f2 - q) = x.f2 - q := by rw [IntKind.wrap_i64]; omega
    have w2 : IntKind.i64.wrap ((x.f2 - q) * costV n) = (x.f2 - q) * costV n := by rw [IntKind.wrap_i64]; omega
    have w3 : ((x.f2 - q) * costV n).tdiv (costV x.f1) = (x.f2 - q) * costV n / costV x.f1 := Int.tdiv_eq_ediv_of_nonneg hp0
    have w4 : IntKind.i64.wrap ((x.f2 - q) * costV n / costV x.f1) = (x.f2 - q) * costV n / costV x.f1 := by rw [IntKind.wrap_i64]; omega
    have w5 : IntKind.i64.wrap (q + (x.f2 - q) * costV n / costV x.f1) = q + (x.f2 - q) * costV n / costV x.f1 := by rw [IntKind.wrap_i64]; omega
    obtain ⟨m, hm⟩ : ∃ m, rwV q x n = m := ⟨_, rfl⟩
    have hm2 : (if 1152921504606846976 < q + (x.f2 - q) * costV n / costV x.f1 then 1152921504606846976 else q + (x.f2 - q) * costV n / costV x.f1) = m := by rw [← hm]; unfold rwV; rw [if_pos hlt]
    have HM := Aside0.mk hm
    clear hm hp0 hp1 hd0 hd1
    go_enter Try.func53, Try.ntmps53
    go_wp2
    go_quiet (fail)
    go_wp2
    have e2 : (W.drewN nq).cell? ⟨g, i * 4 + 2, none⟩ = some (.int .i64 x.f2) := c2
    have e1 : (W.drewN nq).cell? ⟨g, i * 4 + 1, none⟩ = some (.int .i64 x.f1) := c1
    have y2 : (W.drewN nq).frozen? ⟨g, i * 4 + 2, none⟩ = false := z2
    have y1 : (W.drewN nq).frozen? ⟨g, i * 4 + 1, none⟩ = false := z1
    have p1 : (W.drewN nq).cell? ⟨B, 1, none⟩ = some (.slice (some ⟨g, 0, none⟩) l.length cap) := q1
    have p0 : (W.drewN nq).cell? ⟨B, 0, none⟩ = some (.int .i64 q) := q0
    have eC : (W.drewN nq).cell? ⟨C, 0, none⟩ = some (.int .i64 n) := cC
    have HR2 := Aside0.mk (Kd.R_drewN HR.out nq)
    have HQ2 : Aside0 ((W.drewN nq).heap[B]? = some (.cells #[.int .i64 q, .slice (some ⟨g, 0, none⟩) l.length cap] 29 (0, 0))) := ⟨HQ.out⟩
    have HB2 := Aside0.mk (pw_below_drewN HB.out nq)
    clear c1 c2 z1 z2 q0 q1 cC HR HQ HB
    generalize W.drewN nq = W2 at e2 e1 y2 y1 p1 p0 eC HR2 HQ2 HB2 ⊢
    refine wp_region_still_tail 27 (by kernel_rfl) (by kernel_rfl) ?_
    simp only [List.take_succ_cons, List.take_zero, List.drop_succ_cons, List.drop_zero]
    repeat (first | still_step | still_call (cost_same _ _))
    refine wpStill_nil ?_
    change wpList _ _ _ _ _ W2.drew
    go_wp2
    go_ret
    obtain ⟨s1, s2, s3⟩ := doW_put hi hB hbg hok HQ2.out HR2.out HB2.out 2 (by omega) (.int .i64 m) { x with f2 := m } (by rw [HXE.out]; rfl)
    have hi2 : i < (l.set i { x with f2 := m }).length := by rw [List.length_set]; exact hi
    obtain ⟨r1, r2, r3⟩ := doW_put hi2 hB hbg hok s1 s2 s3 1 (by omega) (.int .i64 n) { x with f1 := n, f2 := m } (by rw [rd_set36 _ _ _ hi]; rfl)
    rw [List.set_set] at r2
    refine ⟨rfl, ?_⟩
    unfold reweightF
    rw [HXE.out, HM.out]
    exact ⟨_, r1, Kd.R_drew r2, below_drew1 r3⟩
  · have hltb : decide (q < x.f2) = false := decide_eq_false hlt
    have hm : Aside0 (rwV q x n = x.f2) := ⟨by unfold rwV; rw [if_neg hlt]⟩
    go_enter Try.func53, Try.ntmps53
    go_wp2
    go_quiet (fail)
    go_wp2
    go_ret
    refine ⟨rfl, ?_⟩
    obtain ⟨r1, r2, r3⟩ := doW_put hi hB hbg hok HQ.out HR.out HB.out 1 (by omega) (.int .i64 n) { x with f1 := n } (by rw [HXE.out]; rfl)
    unfold reweightF
    rw [HXE.out, hm.out]
    exact ⟨_, r1, Kd.R_drewN r2 _, pw_below_drewN r3 _⟩


/-- 'clear(s)' on a slice of a row of whole cells. -/
theorem clear_row_run {P : Program} (w : World) (t e ty : TypeId) (z : Value) (ht : P.underlying t = some (.slice e)) (hv : ∀ w, (zeroValue e).run P w = .ok z w) (h1 : z.cells.all (·.oneCell') = true)
    (g o n c : Nat) (hn : 0 < n) {cur : Array Value} {e' : TypeId} (hh : w.heap[g]? = some (.cells cur e' (0, 0))) (hfit : o + n * z.cells.size ≤ cur.size) :
    (Builtin.clear_ #[t] ty #[.slice (some ⟨g, o, none⟩) n c]).run P w = .ok (.tuple #[]) (w.setCells g o (Builtin.zeroCells z.cells n).toList) := by
  have hsz : (Builtin.zeroCells z.cells n).toList.length = n * z.cells.size := by simp [Builtin.zeroCells]
  have hst := run_storeCells_cells (P := P) g o (Builtin.zeroCells z.cells n).toList 0 w (fun j hj => by rw [cell_of_row w g _ cur e' (0, 0) hh]; simp; omega) (fun j _ => blk_frozen hh _) (by
    intro v hv'
    have hv2 : v ∈ Builtin.zeroCells z.cells n := by simpa using hv'
    unfold Builtin.zeroCells at hv2
    rw [Array.mem_map] at hv2
    obtain ⟨k, hk, rfl⟩ := hv2
    have hkl : k < n * z.cells.size := by simpa using hk
    have hp : 0 < z.cells.size := by
      rcases Nat.eq_zero_or_pos z.cells.size with h0 | h0
      · rw [h0] at hkl; simp at hkl
      · exact h0
    have hm : k % z.cells.size < z.cells.size := Nat.mod_lt _ hp
    rw [getElem!_pos z.cells (k % z.cells.size) hm]
    exact Array.all_eq_true.1 h1 _ hm)
  simp only [Nat.add_zero] at hst
  obtain ⟨m, rfl⟩ : ∃ m, n = m + 1 := ⟨n - 1, by omega⟩
  simp [Builtin.clear_, run_underlying ht, hv, hst]
namespace Kd
/-- What is written behind an owned row's end leaves the row. -/
theorem R_tail {α : Type} {d : Kd α} {e base : Nat} {W : World} {ok : Nat → Prop} {g n c : Nat} {xs : List α} (h : d.R e W base ok (.slice (some ⟨g, 0, none⟩) n c) xs) (o : Nat) (vs : List Value) (ho : n * d.sz ≤ o) (hfit : o + vs.length ≤ c * d.sz) :
    d.R e (W.setCells g o vs) base ok (.slice (some ⟨g, 0, none⟩) n c) xs ∧ W.grownBy (W.setCells g o vs) (some g) := by
  obtain ⟨hok, inner, hown, hr⟩ := h
  rcases hown with ⟨hown1, hown2⟩
  rcases hown2 with ⟨hv, _⟩ | ⟨g', cap', cur, hv, hb, hh, hnc, hcm, hcs, htake⟩
  · cases hv
  injection hv with ha hn hc
  injection ha with ha
  injection ha with hg
  subst hg; subst hc
  obtain ⟨cur', h3, h4, h5⟩ := setCells_row vs o W cur hh (by omega)
  obtain ⟨s1, s2, s3, s4⟩ := setCells_same g vs o W
  have hfar : ∀ k, k ≠ g → (W.setCells g o vs).heap[k]? = W.heap[k]? := fun k hk => setCells_far vs _ k hk
  refine ⟨⟨hok, inner, ⟨hown1, .inr ⟨g, c, cur', by rw [hn], hb, h3, hnc, hcm, by rw [h4, hcs], ?_⟩⟩, ?_⟩, ⟨s1, s2, s3, by rw [s4]; exact Nat.le_refl _, fun k _ hk => hfar k (fun he => hk (by rw [he]))⟩⟩
  · rw [h5, ← htake, List.append_assoc, List.take_append_of_le_length (by rw [List.length_take, Array.length_toList]; show xs.length * d.sz ≤ _; rw [← hn]; have : n * d.sz ≤ c * d.sz := Nat.mul_le_mul_right _ (by rw [hn]; exact hnc); rw [Nat.le_min]; exact ⟨ho, by rw [Array.length_toList, hcs]; exact this⟩), List.take_take, Nat.min_eq_left (by rw [← hn]; exact ho)]
  · exact ⟨hr.1, fun j p hj => d.M_move (fun k hk => hfar k (fun he => hk.2 (by rw [he]; simp [Value.ownBlock]))) (hr.2 j p hj)⟩
/-- The block under an owned row. -/
theorem R_blk {α : Type} {d : Kd α} {e base : Nat} {W : World} {ok : Nat → Prop} {g n c : Nat} {xs : List α} (h : d.R e W base ok (.slice (some ⟨g, 0, none⟩) n c) xs) : ∃ cur, W.heap[g]? = some (.cells cur e (0, 0)) ∧ cur.size = c * d.sz ∧ base ≤ g ∧ c ≤ maxLen := by
  obtain ⟨hok, inner, hown, hr⟩ := h
  rcases hown with ⟨hown1, hown2⟩
  rcases hown2 with ⟨hv, _⟩ | ⟨g', cap', cur, hv, hb, hh, hnc, hcm, hcs, htake⟩
  · cases hv
  injection hv with ha _ hc
  injection ha with ha
  injection ha with hg
  subst hg; subst hc
  exact ⟨cur, hh, hcs, hb, hcm⟩
end Kd
theorem grown_of_drew {w w1 : World} {row : Option Nat} (h : w.drew.grownBy w1 row) : w.grownBy w1 row := ⟨h.os, h.tape, h.output, h.size, h.block⟩
theorem zero36 : ∀ w, (zeroValue 36).run Try.prog w = .ok (.agg #[.int .i64 0, .int .i64 0, .int .i64 0, .bool false]) w := fun _ => by kernel_rfl
theorem zc36 : (Builtin.zeroCells (Value.agg #[.int .i64 0, .int .i64 0, .int .i64 0, .bool false]).cells 1).toList = [.int .i64 0, .int .i64 0, .int .i64 0, .bool false] := by kernel_rfl
theorem sz36 : (Try.prog.info? 36).map (·.size) = some k36.sz := by kernel_rfl
set_option maxHeartbeats 4000000 in
theorem item_delete (w0 W : World) (g n c : Nat) (l : List S36) (ok : Nat → Prop) (hR : Kd.R k36 36 W w0.heap.size ok (.slice (some ⟨g, 0, none⟩) n c) l) (hb : Below w0.heap.size w0 W) (i : Nat) (hi : i < l.length) :
    Calls Try.prog 62 #[.slice (some ⟨g, 0, none⟩) n c, .int .i64 i, .int .i64 (i + 1)] W fun e w' => e = .returned (.slice (some ⟨g, 0, none⟩) (n - 1) c) ∧ Kd.R k36 36 w' w0.heap.size ok (.slice (some ⟨g, 0, none⟩) (n - 1) c) (l.eraseIdx i) ∧ Below w0.heap.size w0 w' ∧ W.grownBy w' (some g) := by
  obtain ⟨hn, hnc, hC⟩ := Kd.R_reads' hR
  obtain ⟨cur, hcur, hcs, hbg, hcm⟩ := Kd.R_blk hR
  unfold maxLen at hcm
  subst hn
  have HR := Aside0.mk hR
  have HB := Aside0.mk hb
  clear hR hb hC hcur hcs
  have hij : ((i : Int) == (i : Int) + 1) = false := by simp; omega
  have hi1 : (i : Int) + 1 ≤ (l.length : Int) := by omega
  have hn1 : i + 1 ≤ l.length := by omega
  have hn2 : ¬ (l.length : Int) < (i : Int) + 1 := by omega
  have hic : i ≤ c := by omega
  have h01 : (0 : Int) ≤ (i : Int) + 1 := by omega
  have hnic : ¬ c < i := by omega
  have hnin : ¬ l.length < i := by omega
  by_cases hci : c = i + 1
  · have hli : l.length = i + 1 := by omega
    have hcT := eq_true hci
    have HCI := Aside0.mk hci
    have HLI := Aside0.mk hli
    clear hci hli
    go_enter Try.func62, Try.ntmps62
    go_wp2
    refine wp_region_still_tail 6 (by kernel_rfl) (by kernel_rfl) ?_
    simp only [List.take_succ_cons, List.take_zero, List.drop_succ_cons, List.drop_zero]
    repeat (still_step)
    refine wpStill_nil ?_
    change wpList _ _ _ _ _ W.drew
    refine Kd.R_delete k36 w0.heap.size rfl (.tmp 22) (.tmp 25) 27 36 rfl Try.underlying27 sz36 (k := i) rfl rfl (by rw [if_pos HCI.out]) rfl (Kd.R_drew HR.out) (by omega) (below_drew1 HB.out) HB.out.size (fun w1 r1 b1 g1 => ?_)
    obtain ⟨cur1, hcur1, hcs1, _, _⟩ := Kd.R_blk r1
    have H1 := Aside0.mk r1
    have H2 := Aside0.mk b1
    have H3 := Aside0.mk g1
    have hl1 : l.length - 1 < l.length := by omega
    have hz1 : l.length - (l.length - 1) = 1 := by omega
    have hcl : ∀ ty c2, (Builtin.clear_ #[27] ty #[.slice (some ⟨g, (l.length - 1) * 4, none⟩) 1 c2]).run Try.prog w1 = .ok (.tuple #[]) (w1.setCells g ((l.length - 1) * 4) [.int .i64 0, .int .i64 0, .int .i64 0, .bool false]) :=
      fun ty c2 => (clear_row_run w1 27 36 ty _ Try.underlying27 zero36 (by kernel_rfl) g ((l.length - 1) * 4) 1 c2 (by omega) hcur1 (by rw [hcs1]; show (l.length - 1) * 4 + 1 * 4 ≤ c * 4; omega)).trans (by rw [zc36])
    clear r1 b1 g1 hcur1 hcs1
    go_wp2
    go_ret
    obtain ⟨t1, t2⟩ := Kd.R_tail H1.out ((l.length - 1) * 4) [.int .i64 0, .int .i64 0, .int .i64 0, .bool false] (Nat.le_refl _) (by show (l.length - 1) * 4 + 4 ≤ c * 4; omega)
    exact ⟨rfl, t1, H2.out.grown t2 H2.out.size (fun k hk => by injection hk with hk; omega), (grown_of_drew H3.out).trans t2⟩
  · go_enter Try.func62, Try.ntmps62
    go_wp2
    refine wp_region_still_tail 6 (by kernel_rfl) (by kernel_rfl) ?_
    simp only [List.take_succ_cons, List.take_zero, List.drop_succ_cons, List.drop_zero]
    repeat (still_step)
    refine wpStill_nil ?_
    change wpList _ _ _ _ _ W.drew
    refine Kd.R_delete k36 w0.heap.size rfl (.tmp 22) (.tmp 25) 27 36 rfl Try.underlying27 sz36 (k := i) rfl rfl (by rw [if_neg hci]; show some (⟨g, (i + 1) * 4, none⟩ : Addr) = some (Addr.add ⟨g, 0, none⟩ ((i + 1) * 4)); rw [add_plain]) rfl (Kd.R_drew HR.out) (by omega) (below_drew1 HB.out) HB.out.size (fun w1 r1 b1 g1 => ?_)
    obtain ⟨cur1, hcur1, hcs1, _, _⟩ := Kd.R_blk r1
    have H1 := Aside0.mk r1
    have H2 := Aside0.mk b1
    have H3 := Aside0.mk g1
    have hl1 : l.length - 1 < l.length := by omega
    have hz1 : l.length - (l.length - 1) = 1 := by omega
    have hcl : ∀ ty c2, (Builtin.clear_ #[27] ty #[.slice (some ⟨g, (l.length - 1) * 4, none⟩) 1 c2]).run Try.prog w1 = .ok (.tuple #[]) (w1.setCells g ((l.length - 1) * 4) [.int .i64 0, .int .i64 0, .int .i64 0, .bool false]) :=
      fun ty c2 => (clear_row_run w1 27 36 ty _ Try.underlying27 zero36 (by kernel_rfl) g ((l.length - 1) * 4) 1 c2 (by omega) hcur1 (by rw [hcs1]; show (l.length - 1) * 4 + 1 * 4 ≤ c * 4; omega)).trans (by rw [zc36])
    clear r1 b1 g1 hcur1 hcs1
    go_wp2
    go_ret
    obtain ⟨t1, t2⟩ := Kd.R_tail H1.out ((l.length - 1) * 4) [.int .i64 0, .int .i64 0, .int .i64 0, .bool false] (Nat.le_refl _) (by show (l.length - 1) * 4 + 4 ≤ c * 4; omega)
    exact ⟨rfl, t1, H2.out.grown t2 H2.out.size (fun k hk => by injection hk with hk; omega), (grown_of_drew H3.out).trans t2⟩

set_option maxHeartbeats 4000000 in
theorem drop_do (w0 : World) (q : Int) (l : List S36) (i : Nat) (hi : i < l.length) : DoIs 61 #[] w0 q l i (0, l.eraseIdx i) := by
  intro W B v hB hb hQ hR
  obtain ⟨g, cap, rfl, hcap, hbg, hg, hok, hE⟩ := rowV_open hR i hi
  have hbig : l.length ≤ 9223372036854775807 := by
    obtain ⟨_, _, hC⟩ := Kd.R_reads' hR
    exact hC.2.1
  have q1 : W.cell? ⟨B, 1, none⟩ = some (.slice (some ⟨g, 0, none⟩) l.length cap) := (blk_cell hQ 1).trans rfl
  have hiz : (i : Int) < (l.length : Int) := by omega
  have hwi : IntKind.i64.wrap ((i : Int) + 1) = (i : Int) + 1 := by rw [IntKind.wrap_i64]; omega
  have hcall := item_delete w0 W g l.length cap l _ hR hb i hi
  have HQ := Aside0.mk hQ
  have HB := Aside0.mk hb
  clear hR hQ hE hb
  go_enter Try.func61, Try.ntmps61
  go_wp2_with (go_at_call 62; refine hcall.mono ?_; rintro e w' ⟨rfl, r1, r2, r3⟩; have H1 := Aside0.mk r1; have H2 := Aside0.mk r2; have H3 := Aside0.mk ((r3.block B (blk_lt HQ.out) (by intro e; injection e with e; exact hok e.symm)).trans HQ.out); have c1 := (blk_cell H3.out 1); have f1 := blk_frozen H3.out 1; clear r1 r2 r3)
  go_ret
  exact ⟨rfl, _, blk_put (cs := #[.int .i64 q, .slice (some ⟨g, 0, none⟩) l.length cap]) H3.out 1 _ rfl, Kd.R_far (p := ⟨B, 1, none⟩) H1.out (fun _ hk => hk) _, below_set H2.out hB⟩

theorem ckV_len {q : Int} {l : List S36} (h : ckV q l = true) : l.length ≤ 192 := by
  unfold ckV at h
  simp only [Bool.and_eq_true, decide_eq_true_eq] at h
  exact h.1.2
theorem far2 (W : World) (b g o : Nat) (u u' : Value) (h : b ≠ g) : ((W.setCell ⟨g, 0, none⟩ u).setCell ⟨g, 1, none⟩ u').cell? ⟨b, o, none⟩ = W.cell? ⟨b, o, none⟩ := by
  rw [World.cell?_setCell_other _ _ _ _ (by intro e; injection e with e; exact h e.symm), World.cell?_setCell_other _ _ _ _ (by intro e; injection e with e; exact h e.symm)]
theorem below_of_drew {b : Nat} {w w1 : World} (h : Below b w.drew w1) : Below b w w1 := ⟨h.os, h.tape, h.output, h.size, h.block⟩
theorem two_blocks (w : World) (a b : Array Value) (t1 t2 : TypeId) {w' : World} (h : Below ((w.alloc (.cells a t1)).alloc (.cells b t2)).heap.size ((w.alloc (.cells a t1)).alloc (.cells b t2)) w') :
    w'.heap[w.heap.size]? = some (.cells a t1 (0, 0)) ∧ w'.heap[w.heap.size + 1]? = some (.cells b t2 (0, 0)) ∧ w.heap.size + 1 < w'.heap.size ∧ Below w.heap.size w w' := by
  have h1 := blk_alloc (blk_new w (.cells a t1)) (.cells b t2)
  have h2 := blk_new (w.alloc (.cells a t1)) (.cells b t2)
  have e : (w.alloc (.cells a t1)).heap.size = w.heap.size + 1 := by simp
  rw [e] at h2
  have h3 := blk_lt h2
  exact ⟨blk_below h1 h, blk_below h2 h, Nat.lt_of_lt_of_le h3 h.size, (below_alloc (below_alloc (Below.refl _ w) _) _).trans (h.mono (Nat.le_of_lt (Nat.lt_of_le_of_lt (Nat.le_succ _) h3)))⟩
set_option maxHeartbeats 2000000 in
theorem change_res (w w5 : World) (N : Nat) (hN : w.heap.size ≤ N) (q : Int) (v : Value) (b : Nat) (hb : N < b) {ok : Nat → Prop} (l : List S36) (hbl : w.heap.size ≤ b) (hL : w5.heap[N]? = some (.cells #[.int .i64 0, .slice none 0 0] 29 (0, 0))) (hR : Kd.R k36 36 w5 b ok v l) (hB : Below w.heap.size w w5) :
    ((w5.setCell ⟨N, 0, none⟩ (.int .i64 q)).setCell ⟨N, 1, none⟩ v).heap[N]? = some (.cells #[.int .i64 q, v] 29 (0, 0)) ∧ Kd.R k36 36 ((w5.setCell ⟨N, 0, none⟩ (.int .i64 q)).setCell ⟨N, 1, none⟩ v) w.heap.size (fun _ => True) v l ∧ Below w.heap.size w ((w5.setCell ⟨N, 0, none⟩ (.int .i64 q)).setCell ⟨N, 1, none⟩ v) := by
  refine ⟨blk_put (cs := #[.int .i64 q, .slice none 0 0]) (blk_put (cs := #[.int .i64 0, .slice none 0 0]) hL 0 _ rfl) 1 _ rfl, ?_, below_set (below_set hB hN) hN⟩
  have h1 := Kd.R_mono (Kd.R_bound hR) (ok' := fun k => k ≠ N) (fun k hk => by have := hk.2.1; omega)
  exact Kd.R_mono (Kd.R_lower (Kd.R_far (p := ⟨N, 1, none⟩) (Kd.R_far (p := ⟨N, 0, none⟩) h1 (fun _ hk => hk) _) (fun _ hk => hk) _) hbl) (fun _ _ => trivial)
set_option maxHeartbeats 8000000 in
theorem virtual_change_ok (q : Int) (A : Option Addr) (c : Nat) (l : List S36) (id : Int) (fd : FuncId) (caps : Array Value) (w : World) (hr : Kd.C k36 w A l.length l) (hc : l.length ≤ c)
    (i : Nat) (F : Int × List S36) (hck : ckV q l = true) (hix : idxOf l id = i) (hi : i < l.length) (hdo : ∀ w0 : World, Below w.heap.size w w0 → DoIs fd caps w0 q l i F) (hcf : ∀ (args : Array Value) (W : World), (callFunc fd args).run Try.prog W = .ok (.enter fd args) W) (k : Nat) (r1 : Int) (r2 : List S36) (r3 : Int) (h : (if F.1 = 0 then virtual_settle.f k q F.2 else some (0, [], F.1)) = some (r1, r2, r3)) :
    Calls Try.prog 44 #[.agg #[.int .i64 q, .slice A l.length c], .int .i64 id, .func (.func fd) #[] caps] w fun e w' => ∃ v, e = .returned (.tuple #[.agg #[.int .i64 r1, v], .int .i64 r3]) ∧ Kd.R k36 36 w' w.heap.size (fun _ => True) v r2 ∧ Below w.heap.size w w' := by
  have HR := Aside0.mk hr
  have HC := Aside0.mk hc
  have HDO := Aside0.mk hdo
  have HH := Aside0.mk h
  have HCK := Aside0.mk hck
  have HIX := Aside0.mk hix
  clear hr hc hdo h hck hix
  have hin : ¬ (i : Int) < 0 := by omega
  have HCF := Aside0.mk hcf
  clear hcf
  go_enter Try.func44, Try.ntmps44
  go_wp2_with (first | (go_at_call 34; refine (virtual_Check.calls q A c l true _ (Kd.C_below HR.out (by repeat (first | with_reducible exact Below.refl _ _ | with_reducible apply below_alloc))) HC.out (by unfold virtual_Check.f; rw [HCK.out])).mono ?_; rintro e w1 ⟨rfl, b1⟩; obtain ⟨k1, k2, k3, k4⟩ := two_blocks w _ _ _ _ b1; have K1 := Aside0.mk k1; have K2 := Aside0.mk k2; have K4 := Aside0.mk k4; have d0 := blk_cell k1 0; have d1 := blk_cell k1 1; clear b1 k1 k2 k4) | (go_at_call 54; refine (virtual_at.calls q A c l id i _ (Kd.C_below HR.out K4.out) HC.out (by unfold virtual_at.f; rw [HIX.out])).mono ?_; rintro e w2 ⟨rfl, b2⟩; have J1 := Aside0.mk (blk_below K1.out b2); have J2 := Aside0.mk (blk_below K2.out b2); have J4 := Aside0.mk (K4.out.trans (b2.mono K4.out.size)); have j3 := Nat.lt_of_lt_of_le k3 b2.size; have e0 := blk_cell J1.out 0; have e1 := blk_cell J1.out 1; clear b2 d0 d1 k3))
  have HJ3 := Aside0.mk j3
  have HF60 : Aside0 (api_Item_60.f l = some l) := ⟨by unfold api_Item_60.f; rw [if_pos (by have := ckV_len HCK.out; omega)]⟩
  have hne : w.heap.size ≠ w2.heap.size := by omega
  have e0 := e0.trans (show _ = some (Value.int .i64 q) from rfl)
  have e1 := e1.trans (show _ = some (Value.slice A l.length c) from rfl)
  have s0 : ∀ o, (w2.alloc o).cell? ⟨w.heap.size, 0, none⟩ = some (.int .i64 q) := fun o => (World.cell?_alloc_lt w2 o _ (by show w.heap.size < w2.heap.size; omega)).trans e0
  have s1 : ∀ o, (w2.alloc o).cell? ⟨w.heap.size, 1, none⟩ = some (.slice A l.length c) := fun o => (World.cell?_alloc_lt w2 o _ (by show w.heap.size < w2.heap.size; omega)).trans e1
  go_region_held3 (fun w' => w'.cell? ⟨w.heap.size, 0, none⟩ = some (.int .i64 q) ∧ w'.cell? ⟨w.heap.size, 1, none⟩ = some (.slice A l.length c)) (first | exact ⟨e0, e1⟩ | exact ⟨s0 _, s1 _⟩ | exact ⟨l0, l1⟩ | exact ⟨(far2 _ _ _ _ _ _ hne).trans l0, (far2 _ _ _ _ _ _ hne).trans l1⟩ | exact ⟨(World.cell?_alloc_lt w3 _ _ (blk_lt L1.out)).trans l0, (World.cell?_alloc_lt w3 _ _ (blk_lt L1.out)).trans l1⟩ | go_keep)
    (first | (go_at_call 60; refine (api_Item_60.calls A c l l _ (Kd.C_below HR.out (by repeat (first | with_reducible exact J4.out | with_reducible apply below_alloc | with_reducible apply below_drew1 | with_reducible apply pw_below_drewN))) HC.out HF60.out).mono ?_; rintro e w3 ⟨v, rfl, r3, b3⟩; obtain ⟨Av, cv, rfl⟩ := Kd.R_slice r3; have R3 := Aside0.mk r3; have B3 := Aside0.mk b3; have L1 := Aside0.mk (blk_below (g := w.heap.size) (o := .cells #[.int .i64 q, .slice A l.length c] 29 (0, 0)) (by (with_reducible repeat (first | refine blk_drewN ?_ _ | refine blk_drew ?_ | refine blk_alloc ?_ _)); exact J1.out) b3); have L2 := Aside0.mk (blk_below (g := w.heap.size + 1) (o := .cells #[.int .i64 0, .slice none 0 0] 29 (0, 0)) (by (with_reducible repeat (first | refine blk_drewN ?_ _ | refine blk_drew ?_ | refine blk_alloc ?_ _)); exact J2.out) b3); have l0 := (blk_cell L1.out 0).trans (show _ = some (Value.int .i64 q) from rfl); have l1 := (blk_cell L1.out 1).trans (show _ = some (Value.slice A l.length c) from rfl); (try (have m0 := blk_below (g := w2.heap.size) (o := .cells #[.int .i64 0, .slice none 0 0] 29 (0, 0)) (by exact blk_new w2.drew _) b3; have M := Aside0.mk m0; have ml := blk_lt m0; have m1 := blk_cell m0 0; have m2 := blk_cell m0 1; have m3 := blk_frozen m0 0; have m4 := blk_frozen m0 1; clear m0)); clear r3 b3))
  all_goals
    have NE := Aside0.mk hne
    clear hne e0 e1 s0 s1 j3
  · have f1 := blk_new w3 (.cells #[.int .i64 q, .slice Av l.length cv] 29)
    have f2 := Kd.R_elderB R3.out w3.heap.size (Nat.le_refl _)
    have f2 := Kd.R_lower (base' := w2.heap.size) (Kd.R_alloc (Kd.R_mono f2 (fun k hk => hk.2)) (.cells #[.int .i64 q, .slice Av l.length cv] 29)) (Nat.le_refl _)
    have f3 : Below w2.heap.size w2 (w3.alloc (.cells #[.int .i64 q, .slice Av l.length cv] 29)) := below_alloc (below_of_drew B3.out) _
    have f4 : w2.heap.size ≤ w3.heap.size := B3.out.size
    clear R3 B3 L1 L2 l0 l1
    generalize w3.alloc (.cells #[.int .i64 q, .slice Av l.length cv] 29) = W4 at f1 f2 f3 ⊢
    generalize w3.heap.size = g at f1 f2 f4 ⊢
    have ff := HDO.out w2 J4.out W4 g _ f4 f3 f1 f2
    have F1 := Aside0.mk f1
    have hcf := HCF.out (#[.pointer (some ⟨g, 0, none⟩), .int .i64 i] ++ caps) W4
    clear f1 f2 f3 f4
    by_cases hF : F.1 = 0
    · have HS : Aside0 (virtual_settle.f k q F.2 = some (r1, r2, r3)) := ⟨by have := HH.out; rw [if_pos hF] at this; exact this⟩
      go_wp2_with (first | ((with_reducible refine ff.mono ?_); rintro e w5 ⟨rfl, v5, b5, r5, l5⟩; obtain ⟨A5, c5, rfl⟩ := Kd.R_slice r5; have X2 := Aside0.mk r5; have X3 := Aside0.mk l5; have y0 := blk_cell b5 0; have y1 := blk_cell b5 1; clear b5 r5 l5) | (go_at_call 58; refine (virtual_settle.calls k q _ _ F.2 r1 r2 r3 w2 _ X3.out X2.out HS.out).mono ?_; rintro e w6 ⟨v6, rfl, r6, b6, _⟩; obtain ⟨A6, c6, rfl⟩ := Kd.R_slice r6; have Y2 := Aside0.mk r6; have Y3 := Aside0.mk b6; have l6 := (b6.block (w.heap.size + 1) (blk_lt J2.out)).trans J2.out; have Y4 := Aside0.mk l6; have z0 := blk_cell l6 0; have z1 := blk_cell l6 1; have z2 := blk_frozen l6 0; have z3 := blk_frozen l6 1; clear r6 b6 l6 y0 y1))
      obtain ⟨c1, c2, c3⟩ := change_res w w6 (w.heap.size + 1) (Nat.le_succ _) r1 (.slice A6 r2.length c6) w2.heap.size (blk_lt J2.out) r2 J4.out.size Y4.out Y2.out (J4.out.trans (Y3.out.mono J4.out.size))
      refine bodyPost_ret (results_ct rfl _ _ (w.heap.size + 1) 29 #[.int .i64 r1, .slice A6 r2.length c6] (0, 0) _ rfl c1 Try.underlying29 rfl (by kernel_rfl)) rfl ?_
      exact ⟨_, rfl, c2, c3⟩
    · have hFb : (F.1 == 0) = false := by simpa using hF
      have hFn : (F.1 != 0) = true := by simpa using hF
      have HS : Aside0 (0 = r1 ∧ [] = r2 ∧ F.1 = r3) := ⟨by have := HH.out; rw [if_neg hF] at this; simpa using this⟩
      clear hF
      go_wp2_with (first | ((with_reducible refine ff.mono ?_); rintro e w5 ⟨rfl, v5, b5, r5, l5⟩; have X3 := Aside0.mk l5; have l6 := (l5.block (w.heap.size + 1) (blk_lt J2.out)).trans J2.out; have Y4 := Aside0.mk l6; have z0 := blk_cell l6 0; have z1 := blk_cell l6 1; have z2 := blk_frozen l6 0; have z3 := blk_frozen l6 1; clear b5 r5 l5 l6))
      obtain ⟨c1, c2, c3⟩ := change_res w w5 (w.heap.size + 1) (Nat.le_succ _) 0 (.slice none 0 0) w2.heap.size (blk_lt J2.out) [] J4.out.size Y4.out (Kd.R_nil k36 36 w5 w2.heap.size (fun _ => True)) (J4.out.trans (X3.out.mono J4.out.size))
      obtain ⟨rfl, rfl, rfl⟩ := HS.out
      refine bodyPost_ret (results_ct rfl _ _ (w.heap.size + 1) 29 #[.int .i64 0, .slice none 0 0] (0, 0) _ rfl c1 Try.underlying29 rfl (by kernel_rfl)) rfl ?_
      exact ⟨_, rfl, c2, c3⟩
  · have f1 := blk_put (cs := #[.int .i64 q, .slice none 0 0]) (blk_put (cs := #[.int .i64 0, .slice none 0 0]) M.out 0 (.int .i64 q) rfl) 1 (.slice Av l.length cv) rfl
    have f2 := Kd.R_mono (Kd.R_bound R3.out) (ok' := fun k => k ≠ w2.heap.size) (fun k hk => by have h9 := hk.2.1; simp at h9; omega)
    have f2 := Kd.R_lower (base' := w2.heap.size) (Kd.R_far (p := ⟨w2.heap.size, 1, none⟩) (Kd.R_far (p := ⟨w2.heap.size, 0, none⟩) f2 (fun _ hk => hk) (.int .i64 q)) (fun _ hk => hk) (.slice Av l.length cv)) (by simp)
    have f3 : Below w2.heap.size w2 ((w3.setCell ⟨w2.heap.size, 0, none⟩ (.int .i64 q)).setCell ⟨w2.heap.size, 1, none⟩ (.slice Av l.length cv)) :=
      below_set (below_set ((below_drew1 (below_alloc (Below.refl _ w2) (.cells #[.int .i64 0, .slice none 0 0] 29))).trans (B3.out.mono (by simp))) (Nat.le_refl _)) (Nat.le_refl _)
    have f4 : w2.heap.size ≤ w2.heap.size := Nat.le_refl _
    clear R3 B3 L1 L2 l0 l1 M ml m1 m2 m3 m4
    generalize (w3.setCell ⟨w2.heap.size, 0, none⟩ (.int .i64 q)).setCell ⟨w2.heap.size, 1, none⟩ (.slice Av l.length cv) = W4 at f1 f2 f3 ⊢
    have ff := HDO.out w2 J4.out W4 w2.heap.size _ f4 f3 f1 f2
    have F1 := Aside0.mk f1
    have hcf := HCF.out (#[.pointer (some ⟨w2.heap.size, 0, none⟩), .int .i64 i] ++ caps) W4
    clear f1 f2 f3 f4
    by_cases hF : F.1 = 0
    · have HS : Aside0 (virtual_settle.f k q F.2 = some (r1, r2, r3)) := ⟨by have := HH.out; rw [if_pos hF] at this; exact this⟩
      go_wp2_with (first | ((with_reducible refine ff.mono ?_); rintro e w5 ⟨rfl, v5, b5, r5, l5⟩; obtain ⟨A5, c5, rfl⟩ := Kd.R_slice r5; have X2 := Aside0.mk r5; have X3 := Aside0.mk l5; have y0 := blk_cell b5 0; have y1 := blk_cell b5 1; clear b5 r5 l5) | (go_at_call 58; refine (virtual_settle.calls k q _ _ F.2 r1 r2 r3 w2 _ X3.out X2.out HS.out).mono ?_; rintro e w6 ⟨v6, rfl, r6, b6, _⟩; obtain ⟨A6, c6, rfl⟩ := Kd.R_slice r6; have Y2 := Aside0.mk r6; have Y3 := Aside0.mk b6; have l6 := (b6.block (w.heap.size + 1) (blk_lt J2.out)).trans J2.out; have Y4 := Aside0.mk l6; have z0 := blk_cell l6 0; have z1 := blk_cell l6 1; have z2 := blk_frozen l6 0; have z3 := blk_frozen l6 1; clear r6 b6 l6 y0 y1))
      obtain ⟨c1, c2, c3⟩ := change_res w w6 (w.heap.size + 1) (Nat.le_succ _) r1 (.slice A6 r2.length c6) w2.heap.size (blk_lt J2.out) r2 J4.out.size Y4.out Y2.out (J4.out.trans (Y3.out.mono J4.out.size))
      refine bodyPost_ret (results_ct rfl _ _ (w.heap.size + 1) 29 #[.int .i64 r1, .slice A6 r2.length c6] (0, 0) _ rfl c1 Try.underlying29 rfl (by kernel_rfl)) rfl ?_
      exact ⟨_, rfl, c2, c3⟩
    · have hFb : (F.1 == 0) = false := by simpa using hF
      have hFn : (F.1 != 0) = true := by simpa using hF
      have HS : Aside0 (0 = r1 ∧ [] = r2 ∧ F.1 = r3) := ⟨by have := HH.out; rw [if_neg hF] at this; simpa using this⟩
      clear hF
      go_wp2_with (first | ((with_reducible refine ff.mono ?_); rintro e w5 ⟨rfl, v5, b5, r5, l5⟩; have X3 := Aside0.mk l5; have l6 := (l5.block (w.heap.size + 1) (blk_lt J2.out)).trans J2.out; have Y4 := Aside0.mk l6; have z0 := blk_cell l6 0; have z1 := blk_cell l6 1; have z2 := blk_frozen l6 0; have z3 := blk_frozen l6 1; clear b5 r5 l5 l6))
      obtain ⟨c1, c2, c3⟩ := change_res w w5 (w.heap.size + 1) (Nat.le_succ _) 0 (.slice none 0 0) w2.heap.size (blk_lt J2.out) [] J4.out.size Y4.out (Kd.R_nil k36 36 w5 w2.heap.size (fun _ => True)) (J4.out.trans (X3.out.mono J4.out.size))
      obtain ⟨rfl, rfl, rfl⟩ := HS.out
      refine bodyPost_ret (results_ct rfl _ _ (w.heap.size + 1) 29 #[.int .i64 0, .slice none 0 0] (0, 0) _ rfl c1 Try.underlying29 rfl (by kernel_rfl)) rfl ?_
      exact ⟨_, rfl, c2, c3⟩


def stepF (a : Int × Bool) (x : S36) : Int × Bool := if x.f3 = true then (if a.2 = true then (if x.f2 < a.1 then (x.f2, true) else a) else (x.f2, true)) else a
def settleV (q : Int) (l : List S36) : Int := if (l.foldl stepF (0, false)).2 = true then mx q (l.foldl stepF (0, false)).1 else q
theorem first_l0 (l : List S36) (hl : l.length ≤ 9223372036854775806) : ∀ (d i : Nat) (a : Int) (b : Bool), l.length - i = d → i ≤ l.length → virtual_first.l0 (d + 1) a b l (l.length : Int) (i : Int) = some ((l.drop i).foldl stepF (a, b)) := by
  intro d
  induction d with
  | zero =>
    intro i a b hd hi
    simp only [virtual_first.l0]
    rw [if_neg (by omega), List.drop_eq_nil_of_le (by omega)]; rfl
  | succ d ih =>
    intro i a b hd hi
    have hlt : i < l.length := by omega
    have hw : wrap64 ((i : Int) + 1) = ((i + 1 : Nat) : Int) := by unfold wrap64; omega
    have hx : rd_T36 l i = l[i] := by unfold rd_T36; simp only [Int.toNat_natCast, List.getD_eq_getElem?_getD, List.getElem?_eq_getElem hlt, Option.getD_some]
    unfold virtual_first.l0
    rw [if_pos (by omega), if_pos (by omega), if_pos (by omega), hw, hx, List.drop_eq_getElem_cons hlt, List.foldl_cons]
    unfold stepF
    by_cases h3 : l[i].f3 = true
    · rw [if_pos h3, if_pos h3]
      cases b with
      | true =>
        rw [if_pos rfl]
        show _ = some (List.foldl _ (if true = true then (if l[i].f2 < a then (l[i].f2, true) else (a, true)) else (l[i].f2, true)) _)
        rw [if_pos rfl]
        by_cases h2 : l[i].f2 < a
        · rw [if_pos h2, if_pos h2]; exact ih (i + 1) _ _ (by omega) (by omega)
        · rw [if_neg h2, if_neg h2]; exact ih (i + 1) _ _ (by omega) (by omega)
      | false =>
        rw [if_neg (by decide)]
        show _ = some (List.foldl _ (if false = true then (if l[i].f2 < a then (l[i].f2, true) else (a, false)) else (l[i].f2, true)) _)
        rw [if_neg (by decide)]; exact ih (i + 1) _ _ (by omega) (by omega)
    · rw [if_neg h3, if_neg h3]; exact ih (i + 1) _ _ (by omega) (by omega)
theorem settle_f (q : Int) (l : List S36) (hl : l.length ≤ 9223372036854775806) : virtual_settle.f (l.length + 1) q l = some (settleV q l, l, 0) := by
  unfold virtual_settle.f virtual_first.f settleV
  have := first_l0 l hl l.length 0 0 false (by omega) (by omega)
  simp only [Int.natCast_zero, List.drop_zero] at this
  rw [this, Option.bind_some]
  split <;> rfl
def chV (q : Int) (l : List S36) (id : Int) (F : Nat → Int × List S36) : Int × List S36 × Int :=
  if ckV q l = true then (if idxOf l id < 0 then (0, [], 4) else (if (F (idxOf l id).toNat).1 = 0 then (settleV q (F (idxOf l id).toNat).2, (F (idxOf l id).toNat).2, 0) else (0, [], (F (idxOf l id).toNat).1))) else (0, [], 1)
theorem idxOf_lt : ∀ (l : List S36) (id : Int), idxOf l id < l.length
  | [], _ => by unfold idxOf; simp
  | x :: l, id => by
    have := idxOf_lt l id
    unfold idxOf
    rw [List.length_cons]
    split
    · omega
    · split <;> omega
set_option maxHeartbeats 4000000 in
theorem virtual_change_none (q : Int) (A : Option Addr) (c : Nat) (l : List S36) (id : Int) (fd : FuncId) (caps : Array Value) (w : World) (hr : Kd.C k36 w A l.length l) (hc : l.length ≤ c) (e3 : Int) (hck : (ckV q l = false ∧ e3 = 1) ∨ (ckV q l = true ∧ idxOf l id < 0 ∧ e3 = 4)) :
    Calls Try.prog 44 #[.agg #[.int .i64 q, .slice A l.length c], .int .i64 id, .func (.func fd) #[] caps] w fun e w' => ∃ v, e = .returned (.tuple #[.agg #[.int .i64 0, v], .int .i64 e3]) ∧ Kd.R k36 36 w' w.heap.size (fun _ => True) v [] ∧ Below w.heap.size w w' := by
  have HR := Aside0.mk hr
  have HC := Aside0.mk hc
  clear hr hc
  rcases hck with ⟨hck, rfl⟩ | ⟨hck, hix, rfl⟩
  · have HCK := Aside0.mk hck
    clear hck
    go_enter Try.func44, Try.ntmps44
    go_wp2_with (first | (go_at_call 34; refine (virtual_Check.calls q A c l false _ (Kd.C_below HR.out (by repeat (first | with_reducible exact Below.refl _ _ | with_reducible apply below_alloc))) HC.out (by unfold virtual_Check.f; rw [HCK.out])).mono ?_; rintro e w1 ⟨rfl, b1⟩; obtain ⟨k1, k2, k3, k4⟩ := two_blocks w _ _ _ _ b1; have K2 := Aside0.mk k2; have K4 := Aside0.mk k4; have d0 := blk_cell k2 0; have d1 := blk_cell k2 1; have z0 := blk_frozen k2 0; have z1 := blk_frozen k2 1; clear b1 k1 k2 k4))
    have hR := Kd.R_nil k36 36 ((w1.setCell ⟨w.heap.size + 1, 0, none⟩ (.int .i64 0)).setCell ⟨w.heap.size + 1, 1, none⟩ (.slice none 0 0)) w.heap.size (fun _ => True)
    refine bodyPost_ret (results_ct rfl _ _ (w.heap.size + 1) 29 #[.int .i64 0, .slice none 0 0] (0, 0) _ rfl (blk_put (cs := #[.int .i64 0, .slice none 0 0]) (blk_put (cs := #[.int .i64 0, .slice none 0 0]) K2.out 0 _ rfl) 1 _ rfl) Try.underlying29 rfl (by kernel_rfl)) rfl ?_
    exact ⟨_, rfl, hR, below_set (below_set K4.out (Nat.le_succ _)) (Nat.le_succ _)⟩
  · have HCK := Aside0.mk hck
    have HF : Aside0 (∃ z, idxOf l id = z) := ⟨_, rfl⟩
    obtain ⟨z, hz⟩ : ∃ z, idxOf l id = z := ⟨_, rfl⟩
    rw [hz] at hix
    have HZ := Aside0.mk hz
    have hzb : decide (z < 0) = true := decide_eq_true hix
    clear hck hz
    go_enter Try.func44, Try.ntmps44
    go_wp2_with (first | (go_at_call 34; refine (virtual_Check.calls q A c l true _ (Kd.C_below HR.out (by repeat (first | with_reducible exact Below.refl _ _ | with_reducible apply below_alloc))) HC.out (by unfold virtual_Check.f; rw [HCK.out])).mono ?_; rintro e w1 ⟨rfl, b1⟩; obtain ⟨k1, k2, k3, k4⟩ := two_blocks w _ _ _ _ b1; have K1 := Aside0.mk k1; have K2 := Aside0.mk k2; have K4 := Aside0.mk k4; have d0 := blk_cell k1 0; have d1 := blk_cell k1 1; clear b1 k1 k2 k4) | (go_at_call 54; refine (virtual_at.calls q A c l id z _ (Kd.C_below HR.out K4.out) HC.out (by unfold virtual_at.f; rw [HZ.out])).mono ?_; rintro e w2 ⟨rfl, b2⟩; have J2 := Aside0.mk (blk_below K2.out b2); have J4 := Aside0.mk (K4.out.trans (b2.mono K4.out.size)); have e0 := blk_cell J2.out 0; have e1 := blk_cell J2.out 1; have z0 := blk_frozen J2.out 0; have z1 := blk_frozen J2.out 1; clear b2 d0 d1 k3))
    have hR := Kd.R_nil k36 36 ((w2.setCell ⟨w.heap.size + 1, 0, none⟩ (.int .i64 0)).setCell ⟨w.heap.size + 1, 1, none⟩ (.slice none 0 0)) w.heap.size (fun _ => True)
    refine bodyPost_ret (results_ct rfl _ _ (w.heap.size + 1) 29 #[.int .i64 0, .slice none 0 0] (0, 0) _ rfl (blk_put (cs := #[.int .i64 0, .slice none 0 0]) (blk_put (cs := #[.int .i64 0, .slice none 0 0]) J2.out 0 _ rfl) 1 _ rfl) Try.underlying29 rfl (by kernel_rfl)) rfl ?_
    exact ⟨_, rfl, hR, below_set (below_set J4.out (Nat.le_succ _)) (Nat.le_succ _)⟩
theorem virtual_change_all (q : Int) (A : Option Addr) (c : Nat) (l : List S36) (id : Int) (fd : FuncId) (caps : Array Value) (w : World) (hr : Kd.C k36 w A l.length l) (hc : l.length ≤ c)
    (F : Nat → Int × List S36) (hdo : ∀ i : Nat, idxOf l id = i → i < l.length → ckV q l = true → ∀ w0 : World, Below w.heap.size w w0 → DoIs fd caps w0 q l i (F i)) (hF : ∀ i, (F i).2.length ≤ l.length) (hcf : ∀ (args : Array Value) (W : World), (callFunc fd args).run Try.prog W = .ok (.enter fd args) W) (r1 : Int) (r2 : List S36) (r3 : Int) (h : chV q l id F = (r1, r2, r3)) :
    Calls Try.prog 44 #[.agg #[.int .i64 q, .slice A l.length c], .int .i64 id, .func (.func fd) #[] caps] w fun e w' => ∃ v, e = .returned (.tuple #[.agg #[.int .i64 r1, v], .int .i64 r3]) ∧ Kd.R k36 36 w' w.heap.size (fun _ => True) v r2 ∧ Below w.heap.size w w' := by
  unfold chV at h
  by_cases hck : ckV q l = true
  · rw [if_pos hck] at h
    by_cases hix : idxOf l id < 0
    · rw [if_pos hix] at h
      simp only [Prod.mk.injEq] at h
      obtain ⟨rfl, rfl, rfl⟩ := h
      exact virtual_change_none q A c l id fd caps w hr hc 4 (.inr ⟨hck, hix, rfl⟩)
    · rw [if_neg hix] at h
      have hlt := idxOf_lt l id
      have e : idxOf l id = ((idxOf l id).toNat : Int) := by omega
      have hlen := ckV_len hck
      refine virtual_change_ok q A c l id fd caps w hr hc (idxOf l id).toNat (F (idxOf l id).toNat) hck e (by omega) (hdo _ e (by omega) hck) hcf ((F (idxOf l id).toNat).2.length + 1) r1 r2 r3 ?_
      have := hF (idxOf l id).toNat
      split
      · rename_i h0
        rw [if_pos h0] at h
        rw [settle_f _ _ (by omega), h]
      · rename_i h0
        rw [if_neg h0] at h
        rw [h]
  · rw [if_neg hck] at h
    simp only [Prod.mk.injEq] at h
    obtain ⟨rfl, rfl, rfl⟩ := h
    exact virtual_change_none q A c l id fd caps w hr hc 1 (.inl ⟨by simpa using hck, rfl⟩)

theorem ckV_badAt {q : Int} {l : List S36} (h : ckV q l = true) : 0 ≤ q ∧ q ≤ 1152921504606846976 ∧ ∀ i, i < l.length → badAt q l i = false := by
  unfold ckV at h
  simp only [Bool.and_eq_true, decide_eq_true_eq, List.all_eq_true] at h
  exact ⟨h.1.1.1, h.1.1.2, fun i hi => by have := h.2 i (List.mem_range.2 hi); simpa using this⟩
theorem ckV_at {q : Int} {l : List S36} (h : ckV q l = true) (i : Nat) (hi : i < l.length) : (rd_T36 l i).f0 ≠ 0 ∧ costV (rd_T36 l i).f1 ≠ 0 ∧ 0 ≤ (rd_T36 l i).f2 ∧ (rd_T36 l i).f2 ≤ 1152921504606846976 ∧ (rd_T36 l i).f2 ≤ q + costV (rd_T36 l i).f1 ∧ ((rd_T36 l i).f3 = true → q ≤ (rd_T36 l i).f2) ∧ (0 < i → (rd_T36 l ((i : Int) - 1)).f0 < (rd_T36 l i).f0) := by
  have hb := (ckV_badAt h).2.2 i hi
  unfold badAt at hb
  simp only [Bool.or_eq_false_iff, Bool.and_eq_false_iff, decide_eq_false_iff_not, beq_eq_false_iff_ne] at hb
  obtain ⟨⟨⟨⟨⟨b1, b2⟩, b3⟩, b4⟩, b5⟩, b6⟩ := hb
  refine ⟨b1, b3, by omega, ?_, ?_, fun h3 => ?_, fun h0 => ?_⟩
  · split at b5 <;> omega
  · split at b5 <;> omega
  · rcases b6 with b6 | b6
    · rw [b6] at h3; cases h3
    · omega
  · rcases b2 with b2 | b2
    · exact absurd h0 b2
    · omega
theorem ckV_item {q : Int} {l : List S36} (h : ckV q l = true) (i : Nat) (hi : i < l.length) : 0 ≤ (rd_T36 l i).f2 ∧ (rd_T36 l i).f2 ≤ 1152921504606846976 := ⟨(ckV_at h i hi).2.2.1, (ckV_at h i hi).2.2.2.1⟩

end Go.Proofs.Ytancnonigponaaa.PV
