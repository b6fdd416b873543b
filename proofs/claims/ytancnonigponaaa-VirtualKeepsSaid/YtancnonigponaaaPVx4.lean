/- Contracts of functions of the program and of its references, over the translation, for values that can be read as data: each call comes to what a Lean function says. Written by the kit's printer and a program of this session's, with hand-made contracts spliced in. -/
import Derived.Test.YtancnonigponaaaPVx0
import Derived.Test.YtancnonigponaaaPVx3
namespace Go.Proofs.Ytancnonigponaaa.PV
open Go.RowKit Go.Proofs.YtancnonigponaaaW.PrintWords Go.Proofs.YtancnonigponaaaW.PrintLast Go.Proofs.YtancnonigponaaaW.PrintMore
set_option linter.unusedVariables false
set_option linter.unusedSimpArgs false

/-! ### virtual_Check: function 34 (by hand) -/
/-- What an item of a weight pays. -/
def costV (w : Int) : Int := if w < 1 ∨ 10000 < w then 0 else (1073741823 + w) / w
theorem cost_f (w : Int) : virtual_Cost.f w = some (costV w) := by
  unfold virtual_Cost.f costV
  by_cases h1 : w < 1
  · rw [if_pos h1, if_pos (.inl h1)]
  · rw [if_neg h1]
    by_cases h2 : w > 10000
    · rw [if_pos h2, if_pos (.inr h2)]
    · rw [if_neg h2, if_neg (by omega), if_neg (by omega)]
      have e1 : wrap64 (wrap64 (1073741824 + w) - 1) = 1073741823 + w := by unfold wrap64; omega
      rw [e1, Int.tdiv_eq_ediv_of_nonneg (by omega)]
      have b0 : 0 ≤ (1073741823 + w) / w := Int.ediv_nonneg (by omega) (by omega)
      have b1 : (1073741823 + w) / w ≤ 1073741823 + w := Int.ediv_le_self _ (by omega)
      congr 1
      unfold wrap64
      omega
theorem costV_bd (w : Int) : 0 ≤ costV w ∧ costV w ≤ 1073751823 := by
  unfold costV
  split
  · omega
  · have b0 : 0 ≤ (1073741823 + w) / w := Int.ediv_nonneg (by omega) (by omega)
    have b1 : (1073741823 + w) / w ≤ 1073741823 + w := Int.ediv_le_self _ (by omega)
    omega
/-- Is something wrong with the item at a place? -/
def badAt (q : Int) (l : List S36) (i : Nat) : Bool :=
  (rd_T36 l i).f0 == 0 || (decide (0 < i) && decide ((rd_T36 l i).f0 ≤ (rd_T36 l ((i : Int) - 1)).f0)) || costV (rd_T36 l i).f1 == 0 || decide ((rd_T36 l i).f2 < 0) ||
  decide ((if 1152921504606846976 < q + costV (rd_T36 l i).f1 then 1152921504606846976 else q + costV (rd_T36 l i).f1) < (rd_T36 l i).f2) || ((rd_T36 l i).f3 && decide ((rd_T36 l i).f2 < q))
def ckV (q : Int) (l : List S36) : Bool := decide (0 ≤ q) && decide (q ≤ 1152921504606846976) && decide (l.length ≤ 192) && (List.range l.length).all (fun i => !badAt q l i)
def virtual_Check.f (q : Int) (l : List S36) : Option Bool := some (ckV q l)
theorem ckV_bad (q : Int) (l : List S36) (i : Nat) (h : i < l.length) (hb : badAt q l i = true) : ckV q l = false := by
  unfold ckV
  have : (List.range l.length).all (fun i => !badAt q l i) = false := by
    rw [List.all_eq_false]
    exact ⟨i, List.mem_range.2 h, by simp [hb]⟩
  rw [this]; simp
theorem ckV_ok (q : Int) (l : List S36) (h0 : 0 ≤ q) (h1 : q ≤ 1152921504606846976) (h2 : l.length ≤ 192) (h : ∀ i, i < l.length → badAt q l i = false) : ckV q l = true := by
  unfold ckV
  rw [decide_eq_true h0, decide_eq_true h1, decide_eq_true h2]
  simp only [Bool.true_and, List.all_eq_true]
  intro i hi
  rw [h i (List.mem_range.1 hi)]; rfl
attribute [local go_sem] max2_int min2_int max_two min_two
set_option maxHeartbeats 60000000 in
theorem virtual_Check.calls (a0_0 : Int) (A0_1 : Option Addr) (c0_1 : Nat) (l0_1 : List (S36)) (r : Bool) (w : World) (hr0_1 : Kd.C k36 w A0_1 l0_1.length l0_1) (hc0_1 : l0_1.length ≤ c0_1) (h : virtual_Check.f a0_0 l0_1 = some r) :
    Calls Try.prog 34 #[.agg #[.int .i64 a0_0, .slice A0_1 l0_1.length c0_1]] w fun e w' => e = .returned (.bool r) ∧ Below w.heap.size w w' := by
  obtain rfl : ckV a0_0 l0_1 = r := Option.some.inj h
  clear h
  have hbig : l0_1.length ≤ 9223372036854775807 := hr0_1.2.1
  have HR := Aside0.mk hr0_1
  clear hr0_1
  by_cases t0 : a0_0 < 0
  · have t0b : decide (a0_0 < 0) = true := decide_eq_true t0
    have E : Aside0 (ckV a0_0 l0_1 = false) := ⟨by unfold ckV; rw [decide_eq_false (by omega)]; rfl⟩
    go_enter Try.func34, Try.ntmps34
    go_wp2
    go_ret
    exact ⟨by rw [E.out]; rfl, (Below.refl _ _).alloc (Nat.le_refl _) _⟩
  have t0b : decide (a0_0 < 0) = false := decide_eq_false t0
  by_cases t1 : 1152921504606846976 < a0_0
  · have t1b : decide (1152921504606846976 < a0_0) = true := decide_eq_true t1
    have E : Aside0 (ckV a0_0 l0_1 = false) := ⟨by unfold ckV; rw [decide_eq_false (show ¬ a0_0 ≤ 1152921504606846976 by omega)]; simp⟩
    go_enter Try.func34, Try.ntmps34
    go_wp2
    go_ret
    exact ⟨by rw [E.out]; rfl, (Below.refl _ _).alloc (Nat.le_refl _) _⟩
  have t1b : decide (1152921504606846976 < a0_0) = false := decide_eq_false t1
  by_cases t2 : 192 < l0_1.length
  · have t2b : decide (192 < l0_1.length) = true := decide_eq_true t2
    have E : Aside0 (ckV a0_0 l0_1 = false) := ⟨by unfold ckV; rw [decide_eq_false (show ¬ l0_1.length ≤ 192 by omega)]; simp⟩
    go_enter Try.func34, Try.ntmps34
    go_wp2
    go_ret
    exact ⟨by rw [E.out]; rfl, (Below.refl _ _).alloc (Nat.le_refl _) _⟩
  have t2b : decide (192 < l0_1.length) = false := decide_eq_false t2
  obtain ⟨w1, hw1⟩ : ∃ w1, w1 = w.alloc (.cells #[.int .i64 a0_0, .slice A0_1 l0_1.length c0_1] 29) := ⟨_, rfl⟩
  have HW1 := Aside0.mk hw1
  have HBE : Aside0 (Below w.heap.size w w1) := ⟨by rw [hw1]; exact (Below.refl _ _).alloc (Nat.le_refl _) _⟩
  have HQ0 : Aside0 (w1.cell? ⟨w.heap.size, 0, none⟩ = some (.int .i64 a0_0)) := ⟨by rw [hw1]; go_simp⟩
  have HQ1 : Aside0 (w1.cell? ⟨w.heap.size, 1, none⟩ = some (.slice A0_1 l0_1.length c0_1)) := ⟨by rw [hw1]; go_simp⟩
  have hB : w.heap.size < w1.heap.size := by rw [hw1]; simp
  clear hw1
  go_enter Try.func34, Try.ntmps34
  go_wp2
  go_loopg [23] l0_1.length (fun gg s23 wr => ∃ kk : Nat, kk ≤ l0_1.length ∧ l0_1.length - kk ≤ gg ∧ s23 = .int .i64 kk ∧ Aside0 (Below w1.heap.size w1 wr) ∧ Aside0 (∀ i, i < kk → badAt a0_0 l0_1 i = false))
  case atStart => exact ⟨0, Nat.zero_le _, by omega, rfl, ⟨by rw [← HW1.out]; exact Below.refl _ _⟩, ⟨fun i hi => absurd hi (Nat.not_lt_zero _)⟩⟩
  case round =>
    obtain ⟨kk, hkk, hg, rfl, BW, AN⟩ := hrel
    by_cases hlt : kk < l0_1.length
    · have hltz : (kk : Int) < (l0_1.length : Int) := by omega
      have hq0 := (BW.out.cell (p := ⟨w.heap.size, 0, none⟩) hB).trans HQ0.out
      have hq1 := (BW.out.cell (p := ⟨w.heap.size, 1, none⟩) hB).trans HQ1.out
      obtain ⟨ad, e, h0, h1, h2, h3⟩ := at_T36 (Kd.C_below (Kd.C_below HR.out HBE.out) BW.out) (kk : Int) (by omega) (by omega)
      simp only [Int.toNat_natCast] at h0 h1 h2 h3
      cases e
      have hcall := fun w => virtual_Cost.calls (rd_T36 l0_1 kk).f1 _ w (cost_f _)
      go_wp2_with (go_at_call 28; refine (hcall _).mono ?_; rintro e w' ⟨rfl, ⟨nd, rfl⟩⟩)
      obtain ⟨m, hm⟩ : ∃ m : Int, (if 1152921504606846976 < a0_0 + costV (rd_T36 l0_1 kk).f1 then 1152921504606846976 else a0_0 + costV (rd_T36 l0_1 kk).f1) = m := ⟨_, rfl⟩
      have HM := Aside0.mk hm
      have hcb := costV_bd (rd_T36 l0_1 kk).f1
      have hwr : IntKind.i64.wrap (a0_0 + costV (rd_T36 l0_1 kk).f1) = a0_0 + costV (rd_T36 l0_1 kk).f1 := by rw [IntKind.wrap_i64]; omega
      have hBr : w.heap.size < wr.heap.size := Nat.lt_of_lt_of_le hB BW.out.size
      have hBn : w.heap.size ≠ wr.heap.size := Nat.ne_of_lt hBr
      refine wp_region_quiet_lit (by kernel_rfl) (by kernel_rfl) ?_
      by_cases cK : kk = 0
      · have cKb : decide (0 < kk) = false := by simp; omega
        clear cK
        repeat (go_big_quiet_step (fail))
        by_cases cA : (rd_T36 l0_1 kk).f0 = 0
        · have cAb : ((rd_T36 l0_1 kk).f0 == 0) = true := by simpa using cA
          try rw [cAb]
          have EB : Aside0 (badAt a0_0 l0_1 kk = true) := ⟨by unfold badAt; rw [cAb]; simp⟩
          repeat (go_big_quiet_step (fail))
          refine wpQuiet_nil ?_
          intro _ hw'
          obtain ⟨nq, hw''⟩ := hw'
          subst hw''
          go_wp2
          go_ret
          exact ⟨by rw [ckV_bad _ _ kk hlt EB.out]; rfl, HBE.out.trans (Below.mono (by repeat (first | with_reducible exact BW.out | with_reducible apply pw_below_drewN | with_reducible apply below_alloc)) (Nat.le_of_lt hB))⟩
        have cAb : ((rd_T36 l0_1 kk).f0 == 0) = false := by simpa using cA
        try rw [cAb]
        have CA := Aside0.mk cA
        clear cA
        repeat (go_big_quiet_step (fail))
        by_cases cC : costV (rd_T36 l0_1 kk).f1 = 0
        · have cCb : (costV (rd_T36 l0_1 kk).f1 == 0) = true := by simpa using cC
          try rw [cCb]
          have EB : Aside0 (badAt a0_0 l0_1 kk = true) := ⟨by unfold badAt; rw [cCb]; simp⟩
          repeat (go_big_quiet_step (fail))
          refine wpQuiet_nil ?_
          intro _ hw'
          obtain ⟨nq, hw''⟩ := hw'
          subst hw''
          go_wp2
          go_ret
          exact ⟨by rw [ckV_bad _ _ kk hlt EB.out]; rfl, HBE.out.trans (Below.mono (by repeat (first | with_reducible exact BW.out | with_reducible apply pw_below_drewN | with_reducible apply below_alloc)) (Nat.le_of_lt hB))⟩
        have cCb : (costV (rd_T36 l0_1 kk).f1 == 0) = false := by simpa using cC
        try rw [cCb]
        have CC := Aside0.mk cC
        clear cC
        repeat (go_big_quiet_step (fail))
        by_cases cD : (rd_T36 l0_1 kk).f2 < 0
        · have cDb : decide ((rd_T36 l0_1 kk).f2 < 0) = true := decide_eq_true cD
          try rw [cDb]
          have EB : Aside0 (badAt a0_0 l0_1 kk = true) := ⟨by unfold badAt; rw [cDb]; simp⟩
          repeat (go_big_quiet_step (fail))
          refine wpQuiet_nil ?_
          intro _ hw'
          obtain ⟨nq, hw''⟩ := hw'
          subst hw''
          go_wp2
          go_ret
          exact ⟨by rw [ckV_bad _ _ kk hlt EB.out]; rfl, HBE.out.trans (Below.mono (by repeat (first | with_reducible exact BW.out | with_reducible apply pw_below_drewN | with_reducible apply below_alloc)) (Nat.le_of_lt hB))⟩
        have cDb : decide ((rd_T36 l0_1 kk).f2 < 0) = false := decide_eq_false cD
        try rw [cDb]
        have CD := Aside0.mk cD
        clear cD
        repeat (go_big_quiet_step (fail))
        by_cases cE : m < (rd_T36 l0_1 kk).f2
        · have cEb : decide (m < (rd_T36 l0_1 kk).f2) = true := decide_eq_true cE
          try rw [cEb]
          have EB : Aside0 (badAt a0_0 l0_1 kk = true) := ⟨by unfold badAt; rw [HM.out, cEb]; simp⟩
          repeat (go_big_quiet_step (fail))
          refine wpQuiet_nil ?_
          intro _ hw'
          obtain ⟨nq, hw''⟩ := hw'
          subst hw''
          go_wp2
          go_ret
          exact ⟨by rw [ckV_bad _ _ kk hlt EB.out]; rfl, HBE.out.trans (Below.mono (by repeat (first | with_reducible exact BW.out | with_reducible apply pw_below_drewN | with_reducible apply below_alloc)) (Nat.le_of_lt hB))⟩
        have cEb : decide (m < (rd_T36 l0_1 kk).f2) = false := decide_eq_false cE
        try rw [cEb]
        have CE := Aside0.mk cE
        clear cE
        repeat (go_big_quiet_step (fail))
        cases cF : (rd_T36 l0_1 kk).f3 with
        | false =>
          try rw [cF] at h3
          try rw [cF]
          have EB : Aside0 (badAt a0_0 l0_1 kk = false) := ⟨by unfold badAt; rw [HM.out, cEb, cDb, cCb, cAb, cF, cKb]; rfl⟩
          repeat (go_big_quiet_step (fail))
          refine wpQuiet_nil ?_
          intro _ hw'
          obtain ⟨nq, hw''⟩ := hw'
          subst hw''
          go_wp2
          go_roundg (l0_1.length - (kk + 1))
          case measure => omega
          case rel =>
            refine ⟨kk + 1, by omega, by omega, by go_num, ⟨by repeat (first | with_reducible exact BW.out | with_reducible apply pw_below_drewN | with_reducible apply below_alloc)⟩, ⟨fun i hi => ?_⟩⟩
            by_cases e : i = kk
            · subst e; exact EB.out
            · exact AN.out i (by omega)
        | true =>
          try rw [cF] at h3
          try rw [cF]
          repeat (go_big_quiet_step (fail))
          by_cases cG : (rd_T36 l0_1 kk).f2 < a0_0
          · have cGb : decide ((rd_T36 l0_1 kk).f2 < a0_0) = true := decide_eq_true cG
            try rw [cGb]
            have EB : Aside0 (badAt a0_0 l0_1 kk = true) := ⟨by unfold badAt; rw [cF, cGb]; simp⟩
            repeat (go_big_quiet_step (fail))
            refine wpQuiet_nil ?_
            intro _ hw'
            obtain ⟨nq, hw''⟩ := hw'
            subst hw''
            go_wp2
            go_ret
            exact ⟨by rw [ckV_bad _ _ kk hlt EB.out]; rfl, HBE.out.trans (Below.mono (by repeat (first | with_reducible exact BW.out | with_reducible apply pw_below_drewN | with_reducible apply below_alloc)) (Nat.le_of_lt hB))⟩
          · have cGb : decide ((rd_T36 l0_1 kk).f2 < a0_0) = false := decide_eq_false cG
            try rw [cGb]
            have EB : Aside0 (badAt a0_0 l0_1 kk = false) := ⟨by unfold badAt; rw [HM.out, cEb, cDb, cCb, cAb, cF, cGb, cKb]; rfl⟩
            repeat (go_big_quiet_step (fail))
            refine wpQuiet_nil ?_
            intro _ hw'
            obtain ⟨nq, hw''⟩ := hw'
            subst hw''
            go_wp2
            go_roundg (l0_1.length - (kk + 1))
            case measure => omega
            case rel =>
              refine ⟨kk + 1, by omega, by omega, by go_num, ⟨by repeat (first | with_reducible exact BW.out | with_reducible apply pw_below_drewN | with_reducible apply below_alloc)⟩, ⟨fun i hi => ?_⟩⟩
              by_cases e : i = kk
              · subst e; exact EB.out
              · exact AN.out i (by omega)
      · have cKb : decide (0 < kk) = true := by simp; omega
        have hks : IntKind.i64.wrap ((kk : Int) - 1) = (kk : Int) - 1 := by rw [IntKind.wrap_i64]; omega
        have hk0 : 0 < kk := by omega
        have hkz : (0 : Int) ≤ (kk : Int) - 1 := by omega
        have hkm : (kk : Int) - 1 < (l0_1.length : Int) := by omega
        obtain ⟨ad', e', g0, g1, g2, g3⟩ := at_T36 (Kd.C_below (Kd.C_below HR.out HBE.out) BW.out) ((kk : Int) - 1) (by omega) (by omega)
        cases e'
        have eK : ((kk : Int) - 1).toNat = kk - 1 := by omega
        rw [eK] at g0 g1 g2 g3
        have gA := fun o => (World.cell?_alloc_lt wr o _ (World.block_lt_of_cell? wr _ g0)).trans g0
        clear eK cK
        repeat (go_big_quiet_step (fail))
        by_cases cA : (rd_T36 l0_1 kk).f0 = 0
        · have cAb : ((rd_T36 l0_1 kk).f0 == 0) = true := by simpa using cA
          try rw [cAb]
          have EB : Aside0 (badAt a0_0 l0_1 kk = true) := ⟨by unfold badAt; rw [cAb]; simp⟩
          repeat (go_big_quiet_step (fail))
          refine wpQuiet_nil ?_
          intro _ hw'
          obtain ⟨nq, hw''⟩ := hw'
          subst hw''
          go_wp2
          go_ret
          exact ⟨by rw [ckV_bad _ _ kk hlt EB.out]; rfl, HBE.out.trans (Below.mono (by repeat (first | with_reducible exact BW.out | with_reducible apply pw_below_drewN | with_reducible apply below_alloc)) (Nat.le_of_lt hB))⟩
        have cAb : ((rd_T36 l0_1 kk).f0 == 0) = false := by simpa using cA
        try rw [cAb]
        have CA := Aside0.mk cA
        clear cA
        repeat (go_big_quiet_step (fail))
        by_cases cB : (rd_T36 l0_1 kk).f0 ≤ (rd_T36 l0_1 ((kk : Int) - 1)).f0
        · have cBb : decide ((rd_T36 l0_1 kk).f0 ≤ (rd_T36 l0_1 ((kk : Int) - 1)).f0) = true := decide_eq_true cB
          try rw [cBb]
          have EB : Aside0 (badAt a0_0 l0_1 kk = true) := ⟨by unfold badAt; rw [cBb, cKb]; simp⟩
          repeat (go_big_quiet_step (fail))
          refine wpQuiet_nil ?_
          intro _ hw'
          obtain ⟨nq, hw''⟩ := hw'
          subst hw''
          go_wp2
          go_ret
          exact ⟨by rw [ckV_bad _ _ kk hlt EB.out]; rfl, HBE.out.trans (Below.mono (by repeat (first | with_reducible exact BW.out | with_reducible apply pw_below_drewN | with_reducible apply below_alloc)) (Nat.le_of_lt hB))⟩
        have cBb : decide ((rd_T36 l0_1 kk).f0 ≤ (rd_T36 l0_1 ((kk : Int) - 1)).f0) = false := decide_eq_false cB
        try rw [cBb]
        have CB := Aside0.mk cB
        clear cB
        repeat (go_big_quiet_step (fail))
        by_cases cC : costV (rd_T36 l0_1 kk).f1 = 0
        · have cCb : (costV (rd_T36 l0_1 kk).f1 == 0) = true := by simpa using cC
          try rw [cCb]
          have EB : Aside0 (badAt a0_0 l0_1 kk = true) := ⟨by unfold badAt; rw [cCb]; simp⟩
          repeat (go_big_quiet_step (fail))
          refine wpQuiet_nil ?_
          intro _ hw'
          obtain ⟨nq, hw''⟩ := hw'
          subst hw''
          go_wp2
          go_ret
          exact ⟨by rw [ckV_bad _ _ kk hlt EB.out]; rfl, HBE.out.trans (Below.mono (by repeat (first | with_reducible exact BW.out | with_reducible apply pw_below_drewN | with_reducible apply below_alloc)) (Nat.le_of_lt hB))⟩
        have cCb : (costV (rd_T36 l0_1 kk).f1 == 0) = false := by simpa using cC
        try rw [cCb]
        have CC := Aside0.mk cC
        clear cC
        repeat (go_big_quiet_step (fail))
        by_cases cD : (rd_T36 l0_1 kk).f2 < 0
        · have cDb : decide ((rd_T36 l0_1 kk).f2 < 0) = true := decide_eq_true cD
          try rw [cDb]
          have EB : Aside0 (badAt a0_0 l0_1 kk = true) := ⟨by unfold badAt; rw [cDb]; simp⟩
          repeat (go_big_quiet_step (fail))
          refine wpQuiet_nil ?_
          intro _ hw'
          obtain ⟨nq, hw''⟩ := hw'
          subst hw''
          go_wp2
          go_ret
          exact ⟨by rw [ckV_bad _ _ kk hlt EB.out]; rfl, HBE.out.trans (Below.mono (by repeat (first | with_reducible exact BW.out | with_reducible apply pw_below_drewN | with_reducible apply below_alloc)) (Nat.le_of_lt hB))⟩
        have cDb : decide ((rd_T36 l0_1 kk).f2 < 0) = false := decide_eq_false cD
        try rw [cDb]
        have CD := Aside0.mk cD
        clear cD
        repeat (go_big_quiet_step (fail))
        by_cases cE : m < (rd_T36 l0_1 kk).f2
        · have cEb : decide (m < (rd_T36 l0_1 kk).f2) = true := decide_eq_true cE
          try rw [cEb]
          have EB : Aside0 (badAt a0_0 l0_1 kk = true) := ⟨by unfold badAt; rw [HM.out, cEb]; simp⟩
          repeat (go_big_quiet_step (fail))
          refine wpQuiet_nil ?_
          intro _ hw'
          obtain ⟨nq, hw''⟩ := hw'
          subst hw''
          go_wp2
          go_ret
          exact ⟨by rw [ckV_bad _ _ kk hlt EB.out]; rfl, HBE.out.trans (Below.mono (by repeat (first | with_reducible exact BW.out | with_reducible apply pw_below_drewN | with_reducible apply below_alloc)) (Nat.le_of_lt hB))⟩
        have cEb : decide (m < (rd_T36 l0_1 kk).f2) = false := decide_eq_false cE
        try rw [cEb]
        have CE := Aside0.mk cE
        clear cE
        repeat (go_big_quiet_step (fail))
        cases cF : (rd_T36 l0_1 kk).f3 with
        | false =>
          try rw [cF] at h3
          try rw [cF]
          have EB : Aside0 (badAt a0_0 l0_1 kk = false) := ⟨by unfold badAt; rw [HM.out, cEb, cDb, cCb, cAb, cBb, cF, cKb]; rfl⟩
          repeat (go_big_quiet_step (fail))
          refine wpQuiet_nil ?_
          intro _ hw'
          obtain ⟨nq, hw''⟩ := hw'
          subst hw''
          go_wp2
          go_roundg (l0_1.length - (kk + 1))
          case measure => omega
          case rel =>
            refine ⟨kk + 1, by omega, by omega, by go_num, ⟨by repeat (first | with_reducible exact BW.out | with_reducible apply pw_below_drewN | with_reducible apply below_alloc)⟩, ⟨fun i hi => ?_⟩⟩
            by_cases e : i = kk
            · subst e; exact EB.out
            · exact AN.out i (by omega)
        | true =>
          try rw [cF] at h3
          try rw [cF]
          repeat (go_big_quiet_step (fail))
          by_cases cG : (rd_T36 l0_1 kk).f2 < a0_0
          · have cGb : decide ((rd_T36 l0_1 kk).f2 < a0_0) = true := decide_eq_true cG
            try rw [cGb]
            have EB : Aside0 (badAt a0_0 l0_1 kk = true) := ⟨by unfold badAt; rw [cF, cGb]; simp⟩
            repeat (go_big_quiet_step (fail))
            refine wpQuiet_nil ?_
            intro _ hw'
            obtain ⟨nq, hw''⟩ := hw'
            subst hw''
            go_wp2
            go_ret
            exact ⟨by rw [ckV_bad _ _ kk hlt EB.out]; rfl, HBE.out.trans (Below.mono (by repeat (first | with_reducible exact BW.out | with_reducible apply pw_below_drewN | with_reducible apply below_alloc)) (Nat.le_of_lt hB))⟩
          · have cGb : decide ((rd_T36 l0_1 kk).f2 < a0_0) = false := decide_eq_false cG
            try rw [cGb]
            have EB : Aside0 (badAt a0_0 l0_1 kk = false) := ⟨by unfold badAt; rw [HM.out, cEb, cDb, cCb, cAb, cBb, cF, cGb, cKb]; rfl⟩
            repeat (go_big_quiet_step (fail))
            refine wpQuiet_nil ?_
            intro _ hw'
            obtain ⟨nq, hw''⟩ := hw'
            subst hw''
            go_wp2
            go_roundg (l0_1.length - (kk + 1))
            case measure => omega
            case rel =>
              refine ⟨kk + 1, by omega, by omega, by go_num, ⟨by repeat (first | with_reducible exact BW.out | with_reducible apply pw_below_drewN | with_reducible apply below_alloc)⟩, ⟨fun i hi => ?_⟩⟩
              by_cases e : i = kk
              · subst e; exact EB.out
              · exact AN.out i (by omega)
    · have hk : kk = l0_1.length := by omega
      subst hk
      have hltz : ¬ (l0_1.length : Int) < (l0_1.length : Int) := by omega
      go_wp2
      go_ret
      exact ⟨by rw [ckV_ok a0_0 l0_1 (by omega) (by omega) (by omega) AN.out]; rfl, HBE.out.trans (BW.out.mono (by omega))⟩

end Go.Proofs.Ytancnonigponaaa.PV
