/- Contracts of functions of the program and of its references, over the translation, for values that can be read as data: each call comes to what a Lean function says. Written by the kit's printer and a program of this session's, with hand-made contracts spliced in. -/
import Derived.Test.YtancnonigponaaaPVx0
import Derived.Test.YtancnonigponaaaPVx4
import Derived.Test.YtancnonigponaaaPVx22
namespace Go.Proofs.Ytancnonigponaaa.PV
open Go.RowKit Go.Proofs.YtancnonigponaaaW.PrintWords Go.Proofs.YtancnonigponaaaW.PrintLast Go.Proofs.YtancnonigponaaaW.PrintMore
set_option linter.unusedVariables false
set_option linter.unusedSimpArgs false

/-! ### groupcontrolref15_Check: function 29 (by hand) -/
def groupcontrolref15_Check.f (q : Int) (l : List S36) : Option Bool := some (ckV q l)
theorem cost2_f (w : Int) : groupcontrolref15_Cost.f w = some (costV w) := cost_f w
theorem cost2_q (x : Int) (w : World) (n : Nat) : Calls Try.prog 27 #[.int .i64 x] (w.drewN n) fun e w' => e = .returned (.int .i64 (costV x)) ∧ ∃ m, w' = (w.drewN n).drewN m :=
  (groupcontrolref15_Cost.calls x _ _ (cost2_f x)).mono fun _ _ ⟨he, hd⟩ => ⟨he, hd.out⟩
attribute [local go_sem] max2_int min2_int max_two min_two
set_option maxHeartbeats 60000000 in
set_option maxRecDepth 100000 in
theorem groupcontrolref15_Check.calls (a0_0 : Int) (A0_1 : Option Addr) (c0_1 : Nat) (l0_1 : List (S36)) (r : Bool) (w : World) (hr0_1 : Kd.C k36 w A0_1 l0_1.length l0_1) (hc0_1 : l0_1.length ≤ c0_1) (h : groupcontrolref15_Check.f a0_0 l0_1 = some r) :
    Calls Try.prog 29 #[.agg #[.int .i64 a0_0, .slice A0_1 l0_1.length c0_1]] w fun e w' => e = .returned (.bool r) ∧ Below w.heap.size w w' := by
  obtain rfl : ckV a0_0 l0_1 = r := Option.some.inj h
  clear h
  have hbig : l0_1.length ≤ 9223372036854775807 := hr0_1.2.1
  have HR := Aside0.mk hr0_1
  clear hr0_1
  by_cases t0 : a0_0 < 0
  · have t0b : decide (a0_0 < 0) = true := decide_eq_true t0
    have E : Aside0 (ckV a0_0 l0_1 = false) := ⟨by unfold ckV; rw [decide_eq_false (by omega)]; rfl⟩
    go_enter Try.func29, Try.ntmps29
    go_wp2
    go_ret
    exact ⟨by rw [E.out]; rfl, (Below.refl _ _).alloc (Nat.le_refl _) _⟩
  have t0b : decide (a0_0 < 0) = false := decide_eq_false t0
  by_cases t1 : 1152921504606846976 < a0_0
  · have t1b : decide (1152921504606846976 < a0_0) = true := decide_eq_true t1
    have E : Aside0 (ckV a0_0 l0_1 = false) := ⟨by unfold ckV; rw [decide_eq_false (show ¬ a0_0 ≤ 1152921504606846976 by omega)]; simp⟩
    go_enter Try.func29, Try.ntmps29
    go_wp2
    go_ret
    exact ⟨by rw [E.out]; rfl, (Below.refl _ _).alloc (Nat.le_refl _) _⟩
  have t1b : decide (1152921504606846976 < a0_0) = false := decide_eq_false t1
  by_cases t2 : 192 < l0_1.length
  · have t2b : decide (192 < l0_1.length) = true := decide_eq_true t2
    have E : Aside0 (ckV a0_0 l0_1 = false) := ⟨by unfold ckV; rw [decide_eq_false (show ¬ l0_1.length ≤ 192 by omega)]; simp⟩
    go_enter Try.func29, Try.ntmps29
    go_wp2
    go_ret
    exact ⟨by rw [E.out]; rfl, (Below.refl _ _).alloc (Nat.le_refl _) _⟩
  have t2b : decide (192 < l0_1.length) = false := decide_eq_false t2
  obtain ⟨w1, hw1⟩ : ∃ w1, w1 = w.alloc (.cells #[.int .i64 a0_0, .slice A0_1 l0_1.length c0_1] 29) := ⟨_, rfl⟩
  have HW1 := Aside0.mk hw1
  have HBE : Aside0 (Below w.heap.size w w1) := ⟨by rw [hw1]; exact (Below.refl _ _).alloc (Nat.le_refl _) _⟩
  have HQ0 : Aside0 (w1.cell? ⟨w.heap.size, 0, none⟩ = some (.int .i64 a0_0)) := ⟨by rw [hw1]; go_simp⟩
  have HQ1 : Aside0 (w1.cell? ⟨w.heap.size, 1, none⟩ = some (.slice A0_1 l0_1.length c0_1)) := ⟨by rw [hw1]; go_simp⟩
  have hB : w.heap.size < w1.heap.size := by rw [hw1]; simp
  clear hw1
  go_enter Try.func29, Try.ntmps29
  go_wp2
  go_loopg [3] l0_1.length (fun gg s3 wr => ∃ kk : Nat, kk ≤ l0_1.length ∧ l0_1.length - kk ≤ gg ∧ s3 = .int .i64 kk ∧ Aside0 (Below w1.heap.size w1 wr) ∧ Aside0 (∀ i, i < kk → badAt a0_0 l0_1 i = false))
  case atStart => exact ⟨0, Nat.zero_le _, by omega, rfl, ⟨by rw [← HW1.out]; exact Below.refl _ _⟩, ⟨fun i hi => absurd hi (Nat.not_lt_zero _)⟩⟩
  case round =>
    obtain ⟨kk, hkk, hg, rfl, BW, AN⟩ := hrel
    by_cases hlt : kk < l0_1.length
    · have hltz : (kk : Int) < (l0_1.length : Int) := by omega
      have hq0 := (BW.out.cell (p := ⟨w.heap.size, 0, none⟩) hB).trans HQ0.out
      have hq1 := (BW.out.cell (p := ⟨w.heap.size, 1, none⟩) hB).trans HQ1.out
      obtain ⟨ad, e, h0, h1, h2, h3⟩ := at_T36 (Kd.C_below (Kd.C_below HR.out HBE.out) BW.out) (kk : Int) (by omega) (by omega)
      simp only [Int.toNat_natCast] at h0 h1 h2 h3
      cases e
      go_wp2
      have hcb := costV_bd (rd_T36 l0_1 kk).f1
      have hwr : IntKind.i64.wrap (a0_0 + costV (rd_T36 l0_1 kk).f1) = a0_0 + costV (rd_T36 l0_1 kk).f1 := by rw [IntKind.wrap_i64]; omega
      have hBr : w.heap.size < wr.heap.size := Nat.lt_of_lt_of_le hB BW.out.size
      have hBn : w.heap.size ≠ wr.heap.size := Nat.ne_of_lt hBr
      refine wp_region_quiet_lit (by kernel_rfl) (by kernel_rfl) ?_
      by_cases cK : kk = 0
      · have cKb : decide (0 < kk) = false := by simp; omega
        clear cK
        repeat (go_big_quiet_step ((go_at_call 27; exact Calls.quiet_of (cost2_q _ _ _))))
        by_cases cA : (rd_T36 l0_1 kk).f0 = 0
        · have cAb : ((rd_T36 l0_1 kk).f0 == 0) = true := by simpa using cA
          try rw [cAb]
          have EB : Aside0 (badAt a0_0 l0_1 kk = true) := ⟨by unfold badAt; rw [cAb]; simp⟩
          repeat (go_big_quiet_step ((go_at_call 27; exact Calls.quiet_of (cost2_q _ _ _))))
          refine wpQuiet_nil ?_
          intro _ hw'
          obtain ⟨nq, hw''⟩ := hw'
          subst hw''
          go_wp2
          go_ret
          exact ⟨by rw [ckV_bad _ _ kk hlt EB.out]; rfl, HBE.out.trans (Below.mono (by repeat (first | with_reducible exact BW.out | with_reducible apply pw_below_drewN | with_reducible apply below_alloc)) (Nat.le_of_lt hB))⟩
        have cAb : ((rd_T36 l0_1 kk).f0 == 0) = false := by simpa using cA
        try rw [cAb]
        have CA := Aside0.mk cA
        clear cA
        repeat (go_big_quiet_step ((go_at_call 27; exact Calls.quiet_of (cost2_q _ _ _))))
        by_cases cC : costV (rd_T36 l0_1 kk).f1 = 0
        · have cCb : (costV (rd_T36 l0_1 kk).f1 == 0) = true := by simpa using cC
          try rw [cCb]
          have EB : Aside0 (badAt a0_0 l0_1 kk = true) := ⟨by unfold badAt; rw [cCb]; simp⟩
          repeat (go_big_quiet_step ((go_at_call 27; exact Calls.quiet_of (cost2_q _ _ _))))
          refine wpQuiet_nil ?_
          intro _ hw'
          obtain ⟨nq, hw''⟩ := hw'
          subst hw''
          go_wp2
          go_ret
          exact ⟨by rw [ckV_bad _ _ kk hlt EB.out]; rfl, HBE.out.trans (Below.mono (by repeat (first | with_reducible exact BW.out | with_reducible apply pw_below_drewN | with_reducible apply below_alloc)) (Nat.le_of_lt hB))⟩
        have cCb : (costV (rd_T36 l0_1 kk).f1 == 0) = false := by simpa using cC
        try rw [cCb]
        have CC := Aside0.mk cC
        clear cC
        repeat (go_big_quiet_step ((go_at_call 27; exact Calls.quiet_of (cost2_q _ _ _))))
        by_cases cD : (rd_T36 l0_1 kk).f2 < 0
        · have cDb : decide ((rd_T36 l0_1 kk).f2 < 0) = true := decide_eq_true cD
          try rw [cDb]
          have EB : Aside0 (badAt a0_0 l0_1 kk = true) := ⟨by unfold badAt; rw [cDb]; simp⟩
          repeat (go_big_quiet_step ((go_at_call 27; exact Calls.quiet_of (cost2_q _ _ _))))
          refine wpQuiet_nil ?_
          intro _ hw'
          obtain ⟨nq, hw''⟩ := hw'
          subst hw''
          go_wp2
          go_ret
          exact ⟨by rw [ckV_bad _ _ kk hlt EB.out]; rfl, HBE.out.trans (Below.mono (by repeat (first | with_reducible exact BW.out | with_reducible apply pw_below_drewN | with_reducible apply below_alloc)) (Nat.le_of_lt hB))⟩
        have cDb : decide ((rd_T36 l0_1 kk).f2 < 0) = false := decide_eq_false cD
        try rw [cDb]
        have CD := Aside0.mk cD
        clear cD
        repeat (go_big_quiet_step ((go_at_call 27; exact Calls.quiet_of (cost2_q _ _ _))))
        by_cases cE : a0_0 + costV (rd_T36 l0_1 kk).f1 < (rd_T36 l0_1 kk).f2
        · have cEb : decide (a0_0 + costV (rd_T36 l0_1 kk).f1 < (rd_T36 l0_1 kk).f2) = true := decide_eq_true cE
          try rw [cEb]
          have EB : Aside0 (badAt a0_0 l0_1 kk = true) := ⟨by unfold badAt; rw [decide_eq_true (show (if 1152921504606846976 < a0_0 + costV (rd_T36 l0_1 kk).f1 then 1152921504606846976 else a0_0 + costV (rd_T36 l0_1 kk).f1) < (rd_T36 l0_1 kk).f2 by split <;> omega)]; simp⟩
          repeat (go_big_quiet_step ((go_at_call 27; exact Calls.quiet_of (cost2_q _ _ _))))
          refine wpQuiet_nil ?_
          intro _ hw'
          obtain ⟨nq, hw''⟩ := hw'
          subst hw''
          go_wp2
          go_ret
          exact ⟨by rw [ckV_bad _ _ kk hlt EB.out]; rfl, HBE.out.trans (Below.mono (by repeat (first | with_reducible exact BW.out | with_reducible apply pw_below_drewN | with_reducible apply below_alloc)) (Nat.le_of_lt hB))⟩
        have cEb : decide (a0_0 + costV (rd_T36 l0_1 kk).f1 < (rd_T36 l0_1 kk).f2) = false := decide_eq_false cE
        try rw [cEb]
        have CE := Aside0.mk cE
        clear cE
        repeat (go_big_quiet_step ((go_at_call 27; exact Calls.quiet_of (cost2_q _ _ _))))
        by_cases cM : 1152921504606846976 < (rd_T36 l0_1 kk).f2
        · have cMb : decide (1152921504606846976 < (rd_T36 l0_1 kk).f2) = true := decide_eq_true cM
          try rw [cMb]
          have EB : Aside0 (badAt a0_0 l0_1 kk = true) := ⟨by unfold badAt; rw [decide_eq_true (show (if 1152921504606846976 < a0_0 + costV (rd_T36 l0_1 kk).f1 then 1152921504606846976 else a0_0 + costV (rd_T36 l0_1 kk).f1) < (rd_T36 l0_1 kk).f2 by split <;> omega)]; simp⟩
          repeat (go_big_quiet_step ((go_at_call 27; exact Calls.quiet_of (cost2_q _ _ _))))
          refine wpQuiet_nil ?_
          intro _ hw'
          obtain ⟨nq, hw''⟩ := hw'
          subst hw''
          go_wp2
          go_ret
          exact ⟨by rw [ckV_bad _ _ kk hlt EB.out]; rfl, HBE.out.trans (Below.mono (by repeat (first | with_reducible exact BW.out | with_reducible apply pw_below_drewN | with_reducible apply below_alloc)) (Nat.le_of_lt hB))⟩
        have cMb : decide (1152921504606846976 < (rd_T36 l0_1 kk).f2) = false := decide_eq_false cM
        try rw [cMb]
        have HN : Aside0 (decide ((if 1152921504606846976 < a0_0 + costV (rd_T36 l0_1 kk).f1 then 1152921504606846976 else a0_0 + costV (rd_T36 l0_1 kk).f1) < (rd_T36 l0_1 kk).f2) = false) := ⟨decide_eq_false (by have := CE.out; split <;> omega)⟩
        have CM := Aside0.mk cM
        clear cM
        repeat (go_big_quiet_step ((go_at_call 27; exact Calls.quiet_of (cost2_q _ _ _))))
        cases cF : (rd_T36 l0_1 kk).f3 with
        | false =>
          try rw [cF] at h3
          try rw [cF]
          have EB : Aside0 (badAt a0_0 l0_1 kk = false) := ⟨by unfold badAt; rw [HN.out, cDb, cCb, cAb, cF, cKb]; rfl⟩
          repeat (go_big_quiet_step ((go_at_call 27; exact Calls.quiet_of (cost2_q _ _ _))))
          refine wpQuiet_nil ?_
          intro _ hw'
          obtain ⟨nq, hw''⟩ := hw'
          subst hw''
          go_wp2
          go_roundg (l0_1.length - (kk + 1))
          case measure => omega
          case rel =>
            refine ⟨kk + 1, by omega, by omega, by go_num, ⟨by repeat (first | with_reducible exact BW.out | with_reducible apply pw_below_drewN | with_reducible apply below_alloc)⟩, ⟨fun i hi => ?_⟩⟩
            by_cases e : i = kk
            · subst e; exact EB.out
            · exact AN.out i (by omega)
        | true =>
          try rw [cF] at h3
          try rw [cF]
          repeat (go_big_quiet_step ((go_at_call 27; exact Calls.quiet_of (cost2_q _ _ _))))
          by_cases cG : (rd_T36 l0_1 kk).f2 < a0_0
          · have cGb : decide ((rd_T36 l0_1 kk).f2 < a0_0) = true := decide_eq_true cG
            try rw [cGb]
            have EB : Aside0 (badAt a0_0 l0_1 kk = true) := ⟨by unfold badAt; rw [cF, cGb]; simp⟩
            repeat (go_big_quiet_step ((go_at_call 27; exact Calls.quiet_of (cost2_q _ _ _))))
            refine wpQuiet_nil ?_
            intro _ hw'
            obtain ⟨nq, hw''⟩ := hw'
            subst hw''
            go_wp2
            go_ret
            exact ⟨by rw [ckV_bad _ _ kk hlt EB.out]; rfl, HBE.out.trans (Below.mono (by repeat (first | with_reducible exact BW.out | with_reducible apply pw_below_drewN | with_reducible apply below_alloc)) (Nat.le_of_lt hB))⟩
          · have cGb : decide ((rd_T36 l0_1 kk).f2 < a0_0) = false := decide_eq_false cG
            try rw [cGb]
            have EB : Aside0 (badAt a0_0 l0_1 kk = false) := ⟨by unfold badAt; rw [HN.out, cDb, cCb, cAb, cF, cGb, cKb]; rfl⟩
            repeat (go_big_quiet_step ((go_at_call 27; exact Calls.quiet_of (cost2_q _ _ _))))
            refine wpQuiet_nil ?_
            intro _ hw'
            obtain ⟨nq, hw''⟩ := hw'
            subst hw''
            go_wp2
            go_roundg (l0_1.length - (kk + 1))
            case measure => omega
            case rel =>
              refine ⟨kk + 1, by omega, by omega, by go_num, ⟨by repeat (first | with_reducible exact BW.out | with_reducible apply pw_below_drewN | with_reducible apply below_alloc)⟩, ⟨fun i hi => ?_⟩⟩
              by_cases e : i = kk
              · subst e; exact EB.out
              · exact AN.out i (by omega)
      · have cKb : decide (0 < kk) = true := by simp; omega
        have hks : IntKind.i64.wrap ((kk : Int) - 1) = (kk : Int) - 1 := by rw [IntKind.wrap_i64]; omega
        have hk0 : 0 < kk := by omega
        have hkz : (0 : Int) ≤ (kk : Int) - 1 := by omega
        have hkm : (kk : Int) - 1 < (l0_1.length : Int) := by omega
        obtain ⟨ad', e', g0, g1, g2, g3⟩ := at_T36 (Kd.C_below (Kd.C_below HR.out HBE.out) BW.out) ((kk : Int) - 1) (by omega) (by omega)
        cases e'
        have eK : ((kk : Int) - 1).toNat = kk - 1 := by omega
        rw [eK] at g0 g1 g2 g3
        have gA := fun o => (World.cell?_alloc_lt wr o _ (World.block_lt_of_cell? wr _ g0)).trans g0
        clear eK cK
        repeat (go_big_quiet_step ((go_at_call 27; exact Calls.quiet_of (cost2_q _ _ _))))
        by_cases cA : (rd_T36 l0_1 kk).f0 = 0
        · have cAb : ((rd_T36 l0_1 kk).f0 == 0) = true := by simpa using cA
          try rw [cAb]
          have EB : Aside0 (badAt a0_0 l0_1 kk = true) := ⟨by unfold badAt; rw [cAb]; simp⟩
          repeat (go_big_quiet_step ((go_at_call 27; exact Calls.quiet_of (cost2_q _ _ _))))
          refine wpQuiet_nil ?_
          intro _ hw'
          obtain ⟨nq, hw''⟩ := hw'
          subst hw''
          go_wp2
          go_ret
          exact ⟨by rw [ckV_bad _ _ kk hlt EB.out]; rfl, HBE.out.trans (Below.mono (by repeat (first | with_reducible exact BW.out | with_reducible apply pw_below_drewN | with_reducible apply below_alloc)) (Nat.le_of_lt hB))⟩
        have cAb : ((rd_T36 l0_1 kk).f0 == 0) = false := by simpa using cA
        try rw [cAb]
        have CA := Aside0.mk cA
        clear cA
        repeat (go_big_quiet_step ((go_at_call 27; exact Calls.quiet_of (cost2_q _ _ _))))
        by_cases cB : (rd_T36 l0_1 kk).f0 ≤ (rd_T36 l0_1 ((kk : Int) - 1)).f0
        · have cBb : decide ((rd_T36 l0_1 kk).f0 ≤ (rd_T36 l0_1 ((kk : Int) - 1)).f0) = true := decide_eq_true cB
          try rw [cBb]
          have EB : Aside0 (badAt a0_0 l0_1 kk = true) := ⟨by unfold badAt; rw [cBb, cKb]; simp⟩
          repeat (go_big_quiet_step ((go_at_call 27; exact Calls.quiet_of (cost2_q _ _ _))))
          refine wpQuiet_nil ?_
          intro _ hw'
          obtain ⟨nq, hw''⟩ := hw'
          subst hw''
          go_wp2
          go_ret
          exact ⟨by rw [ckV_bad _ _ kk hlt EB.out]; rfl, HBE.out.trans (Below.mono (by repeat (first | with_reducible exact BW.out | with_reducible apply pw_below_drewN | with_reducible apply below_alloc)) (Nat.le_of_lt hB))⟩
        have cBb : decide ((rd_T36 l0_1 kk).f0 ≤ (rd_T36 l0_1 ((kk : Int) - 1)).f0) = false := decide_eq_false cB
        try rw [cBb]
        have CB := Aside0.mk cB
        clear cB
        repeat (go_big_quiet_step ((go_at_call 27; exact Calls.quiet_of (cost2_q _ _ _))))
        by_cases cC : costV (rd_T36 l0_1 kk).f1 = 0
        · have cCb : (costV (rd_T36 l0_1 kk).f1 == 0) = true := by simpa using cC
          try rw [cCb]
          have EB : Aside0 (badAt a0_0 l0_1 kk = true) := ⟨by unfold badAt; rw [cCb]; simp⟩
          repeat (go_big_quiet_step ((go_at_call 27; exact Calls.quiet_of (cost2_q _ _ _))))
          refine wpQuiet_nil ?_
          intro _ hw'
          obtain ⟨nq, hw''⟩ := hw'
          subst hw''
          go_wp2
          go_ret
          exact ⟨by rw [ckV_bad _ _ kk hlt EB.out]; rfl, HBE.out.trans (Below.mono (by repeat (first | with_reducible exact BW.out | with_reducible apply pw_below_drewN | with_reducible apply below_alloc)) (Nat.le_of_lt hB))⟩
        have cCb : (costV (rd_T36 l0_1 kk).f1 == 0) = false := by simpa using cC
        try rw [cCb]
        have CC := Aside0.mk cC
        clear cC
        repeat (go_big_quiet_step ((go_at_call 27; exact Calls.quiet_of (cost2_q _ _ _))))
        by_cases cD : (rd_T36 l0_1 kk).f2 < 0
        · have cDb : decide ((rd_T36 l0_1 kk).f2 < 0) = true := decide_eq_true cD
          try rw [cDb]
          have EB : Aside0 (badAt a0_0 l0_1 kk = true) := ⟨by unfold badAt; rw [cDb]; simp⟩
          repeat (go_big_quiet_step ((go_at_call 27; exact Calls.quiet_of (cost2_q _ _ _))))
          refine wpQuiet_nil ?_
          intro _ hw'
          obtain ⟨nq, hw''⟩ := hw'
          subst hw''
          go_wp2
          go_ret
          exact ⟨by rw [ckV_bad _ _ kk hlt EB.out]; rfl, HBE.out.trans (Below.mono (by repeat (first | with_reducible exact BW.out | with_reducible apply pw_below_drewN | with_reducible apply below_alloc)) (Nat.le_of_lt hB))⟩
        have cDb : decide ((rd_T36 l0_1 kk).f2 < 0) = false := decide_eq_false cD
        try rw [cDb]
        have CD := Aside0.mk cD
        clear cD
        repeat (go_big_quiet_step ((go_at_call 27; exact Calls.quiet_of (cost2_q _ _ _))))
        by_cases cE : a0_0 + costV (rd_T36 l0_1 kk).f1 < (rd_T36 l0_1 kk).f2
        · have cEb : decide (a0_0 + costV (rd_T36 l0_1 kk).f1 < (rd_T36 l0_1 kk).f2) = true := decide_eq_true cE
          try rw [cEb]
          have EB : Aside0 (badAt a0_0 l0_1 kk = true) := ⟨by unfold badAt; rw [decide_eq_true (show (if 1152921504606846976 < a0_0 + costV (rd_T36 l0_1 kk).f1 then 1152921504606846976 else a0_0 + costV (rd_T36 l0_1 kk).f1) < (rd_T36 l0_1 kk).f2 by split <;> omega)]; simp⟩
          repeat (go_big_quiet_step ((go_at_call 27; exact Calls.quiet_of (cost2_q _ _ _))))
          refine wpQuiet_nil ?_
          intro _ hw'
          obtain ⟨nq, hw''⟩ := hw'
          subst hw''
          go_wp2
          go_ret
          exact ⟨by rw [ckV_bad _ _ kk hlt EB.out]; rfl, HBE.out.trans (Below.mono (by repeat (first | with_reducible exact BW.out | with_reducible apply pw_below_drewN | with_reducible apply below_alloc)) (Nat.le_of_lt hB))⟩
        have cEb : decide (a0_0 + costV (rd_T36 l0_1 kk).f1 < (rd_T36 l0_1 kk).f2) = false := decide_eq_false cE
        try rw [cEb]
        have CE := Aside0.mk cE
        clear cE
        repeat (go_big_quiet_step ((go_at_call 27; exact Calls.quiet_of (cost2_q _ _ _))))
        by_cases cM : 1152921504606846976 < (rd_T36 l0_1 kk).f2
        · have cMb : decide (1152921504606846976 < (rd_T36 l0_1 kk).f2) = true := decide_eq_true cM
          try rw [cMb]
          have EB : Aside0 (badAt a0_0 l0_1 kk = true) := ⟨by unfold badAt; rw [decide_eq_true (show (if 1152921504606846976 < a0_0 + costV (rd_T36 l0_1 kk).f1 then 1152921504606846976 else a0_0 + costV (rd_T36 l0_1 kk).f1) < (rd_T36 l0_1 kk).f2 by split <;> omega)]; simp⟩
          repeat (go_big_quiet_step ((go_at_call 27; exact Calls.quiet_of (cost2_q _ _ _))))
          refine wpQuiet_nil ?_
          intro _ hw'
          obtain ⟨nq, hw''⟩ := hw'
          subst hw''
          go_wp2
          go_ret
          exact ⟨by rw [ckV_bad _ _ kk hlt EB.out]; rfl, HBE.out.trans (Below.mono (by repeat (first | with_reducible exact BW.out | with_reducible apply pw_below_drewN | with_reducible apply below_alloc)) (Nat.le_of_lt hB))⟩
        have cMb : decide (1152921504606846976 < (rd_T36 l0_1 kk).f2) = false := decide_eq_false cM
        try rw [cMb]
        have HN : Aside0 (decide ((if 1152921504606846976 < a0_0 + costV (rd_T36 l0_1 kk).f1 then 1152921504606846976 else a0_0 + costV (rd_T36 l0_1 kk).f1) < (rd_T36 l0_1 kk).f2) = false) := ⟨decide_eq_false (by have := CE.out; split <;> omega)⟩
        have CM := Aside0.mk cM
        clear cM
        repeat (go_big_quiet_step ((go_at_call 27; exact Calls.quiet_of (cost2_q _ _ _))))
        cases cF : (rd_T36 l0_1 kk).f3 with
        | false =>
          try rw [cF] at h3
          try rw [cF]
          have EB : Aside0 (badAt a0_0 l0_1 kk = false) := ⟨by unfold badAt; rw [HN.out, cDb, cCb, cAb, cBb, cF, cKb]; rfl⟩
          repeat (go_big_quiet_step ((go_at_call 27; exact Calls.quiet_of (cost2_q _ _ _))))
          refine wpQuiet_nil ?_
          intro _ hw'
          obtain ⟨nq, hw''⟩ := hw'
          subst hw''
          go_wp2
          go_roundg (l0_1.length - (kk + 1))
          case measure => omega
          case rel =>
            refine ⟨kk + 1, by omega, by omega, by go_num, ⟨by repeat (first | with_reducible exact BW.out | with_reducible apply pw_below_drewN | with_reducible apply below_alloc)⟩, ⟨fun i hi => ?_⟩⟩
            by_cases e : i = kk
            · subst e; exact EB.out
            · exact AN.out i (by omega)
        | true =>
          try rw [cF] at h3
          try rw [cF]
          repeat (go_big_quiet_step ((go_at_call 27; exact Calls.quiet_of (cost2_q _ _ _))))
          by_cases cG : (rd_T36 l0_1 kk).f2 < a0_0
          · have cGb : decide ((rd_T36 l0_1 kk).f2 < a0_0) = true := decide_eq_true cG
            try rw [cGb]
            have EB : Aside0 (badAt a0_0 l0_1 kk = true) := ⟨by unfold badAt; rw [cF, cGb]; simp⟩
            repeat (go_big_quiet_step ((go_at_call 27; exact Calls.quiet_of (cost2_q _ _ _))))
            refine wpQuiet_nil ?_
            intro _ hw'
            obtain ⟨nq, hw''⟩ := hw'
            subst hw''
            go_wp2
            go_ret
            exact ⟨by rw [ckV_bad _ _ kk hlt EB.out]; rfl, HBE.out.trans (Below.mono (by repeat (first | with_reducible exact BW.out | with_reducible apply pw_below_drewN | with_reducible apply below_alloc)) (Nat.le_of_lt hB))⟩
          · have cGb : decide ((rd_T36 l0_1 kk).f2 < a0_0) = false := decide_eq_false cG
            try rw [cGb]
            have EB : Aside0 (badAt a0_0 l0_1 kk = false) := ⟨by unfold badAt; rw [HN.out, cDb, cCb, cAb, cBb, cF, cGb, cKb]; rfl⟩
            repeat (go_big_quiet_step ((go_at_call 27; exact Calls.quiet_of (cost2_q _ _ _))))
            refine wpQuiet_nil ?_
            intro _ hw'
            obtain ⟨nq, hw''⟩ := hw'
            subst hw''
            go_wp2
            go_roundg (l0_1.length - (kk + 1))
            case measure => omega
            case rel =>
              refine ⟨kk + 1, by omega, by omega, by go_num, ⟨by repeat (first | with_reducible exact BW.out | with_reducible apply pw_below_drewN | with_reducible apply below_alloc)⟩, ⟨fun i hi => ?_⟩⟩
              by_cases e : i = kk
              · subst e; exact EB.out
              · exact AN.out i (by omega)
    · have hk : kk = l0_1.length := by omega
      subst hk
      have hq0 := (BW.out.cell (p := ⟨w.heap.size, 0, none⟩) hB).trans HQ0.out
      have hq1 := (BW.out.cell (p := ⟨w.heap.size, 1, none⟩) hB).trans HQ1.out
      have hltz : ¬ (l0_1.length : Int) < (l0_1.length : Int) := by omega
      go_wp2
      go_ret
      exact ⟨by rw [ckV_ok a0_0 l0_1 (by omega) (by omega) (by omega) AN.out]; rfl, HBE.out.trans (BW.out.mono (by omega))⟩

end Go.Proofs.Ytancnonigponaaa.PV
