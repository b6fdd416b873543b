/- Contracts of functions of the program and of its references, over the translation, for values that can be read as data: each call comes to what a Lean function says. Written by the kit's printer and a program of this session's, with hand-made contracts spliced in. -/
import Derived.Test.YtgfbamddaepebaaDoorPNx0
import Derived.Test.YtgfbamddaepebaaDoorPNx17
import Derived.Test.YtgfbamddaepebaaDoorPNx18
namespace Go.Proofs.YtgfbamddaepebaaDoor.PN
open Go.RowKit Go.Proofs.YtgfbamddaepebaaDoorW.PrintWords Go.Proofs.YtgfbamddaepebaaDoorW.PrintLast Go.Proofs.YtgfbamddaepebaaDoorW.PrintMore
attribute [local go_sem] max2_int min2_int max_two min_two max_three min_three max_four min_four   -- for this text's walks alone
set_option linter.unusedVariables false
set_option linter.unusedSimpArgs false

/-! ### groupcontrolref2_Parse: function 14 -/
mutual
def groupcontrolref2_Parse.j0 : Nat → ByteArray → Int → Bool → Option (Int × Int)
  | 0, _, _, _ => none
  | k + 1, x0, x4, x19 => if x19 = true then (some (0, 2)) else (if 0 ≤ x4 then (if x4 ≤ (x0.size : Int) then ((groupcontrolref2_value.f k (x0.extract 0 (x4 : Int).toNat)).bind fun t160 => (if (x0.size : Int) = (wrap64 (x4 + 1)) then (if x4 < (x0.size : Int) then (if (bt x0 x4) = 75 then (groupcontrolref2_Parse.j1 k t160 1) else (if (bt x0 x4) = 77 then (groupcontrolref2_Parse.j1 k t160 2) else (if (bt x0 x4) = 71 then (groupcontrolref2_Parse.j1 k t160 3) else (if (bt x0 x4) = 84 then (groupcontrolref2_Parse.j1 k t160 4) else (some (0, 2)))))) else (none)) else (if t160 > 1099511627776 then (some (0, 3)) else (some (t160, 0))))) else (none)) else (none))
def groupcontrolref2_Parse.j1 : Nat → Int → Int → Option (Int × Int)
  | 0, _, _ => none
  | k + 1, x5, x6 => groupcontrolref2_Parse.l0 k x5 x6
def groupcontrolref2_Parse.l0 : Nat → Int → Int → Option (Int × Int)
  | 0, _, _ => none
  | k + 1, x5, x6 => if x6 > 0 then (groupcontrolref2_Parse.l0 k (mn (wrap64 (1024 * x5)) 1099511627777) (wrap64 (x6 - 1))) else (if x5 > 1099511627776 then (some (0, 3)) else (some (x5, 0)))
end
def groupcontrolref2_Parse.f (k : Nat) (a0 : ByteArray) : Option (Int × Int) := if a0.toList = ([109, 97, 120] : List UInt8) then (some (4611686018427387904, 0)) else ((groupcontrolref2_Digits.f k a0).bind fun t159 => (if t159 = 0 then (groupcontrolref2_Parse.j0 k a0 t159 true) else (groupcontrolref2_Parse.j0 k a0 t159 (decide ((a0.size : Int) > (wrap64 (t159 + 1)))))))
theorem groupcontrolref2_Parse.mono_l : ∀ k, (∀ y0 y1 y2, LeO (groupcontrolref2_Parse.j0 k y0 y1 y2) (groupcontrolref2_Parse.j0 (k + 1) y0 y1 y2)) ∧ (∀ y0 y1, LeO (groupcontrolref2_Parse.j1 k y0 y1) (groupcontrolref2_Parse.j1 (k + 1) y0 y1)) ∧ (∀ y0 y1, LeO (groupcontrolref2_Parse.l0 k y0 y1) (groupcontrolref2_Parse.l0 (k + 1) y0 y1))
  | 0 => ⟨fun _ _ _ r h => by simp [groupcontrolref2_Parse.j0] at h, fun _ _ r h => by simp [groupcontrolref2_Parse.j1] at h, fun _ _ r h => by simp [groupcontrolref2_Parse.l0] at h⟩
  | k + 1 => by
    obtain ⟨ih0, ih1, ih2⟩ := groupcontrolref2_Parse.mono_l k
    refine ⟨?_, ?_, ?_⟩
    · intro y0 y1 y2
      unfold groupcontrolref2_Parse.j0
      repeat' first
      | (with_reducible exact ih0 _ _ _)
      | (with_reducible exact ih1 _ _)
      | (with_reducible exact ih2 _ _)
      | (with_reducible exact groupcontrolref2_Digits.mono _ _)
      | (with_reducible exact groupcontrolref2_value.mono _ _)
      | (with_reducible exact LeO.refl _)
      | (with_reducible exact LeO.none _)
      | (with_reducible refine LeO.ite ?_ ?_)
      | (with_reducible refine LeO.bind ?_ (fun _ => ?_))
      | exact ih0 _ _ _
      | exact ih1 _ _
      | exact ih2 _ _
      | exact groupcontrolref2_Digits.mono _ _
      | exact groupcontrolref2_value.mono _ _
      | exact LeO.none _
      | refine LeO.ite ?_ ?_
      | refine LeO.bind ?_ (fun _ => ?_)
    · intro y0 y1
      unfold groupcontrolref2_Parse.j1
      repeat' first
      | (with_reducible exact ih0 _ _ _)
      | (with_reducible exact ih1 _ _)
      | (with_reducible exact ih2 _ _)
      | (with_reducible exact groupcontrolref2_Digits.mono _ _)
      | (with_reducible exact groupcontrolref2_value.mono _ _)
      | (with_reducible exact LeO.refl _)
      | (with_reducible exact LeO.none _)
      | (with_reducible refine LeO.ite ?_ ?_)
      | (with_reducible refine LeO.bind ?_ (fun _ => ?_))
      | exact ih0 _ _ _
      | exact ih1 _ _
      | exact ih2 _ _
      | exact groupcontrolref2_Digits.mono _ _
      | exact groupcontrolref2_value.mono _ _
      | exact LeO.none _
      | refine LeO.ite ?_ ?_
      | refine LeO.bind ?_ (fun _ => ?_)
    · intro y0 y1
      unfold groupcontrolref2_Parse.l0
      repeat' first
      | (with_reducible exact ih0 _ _ _)
      | (with_reducible exact ih1 _ _)
      | (with_reducible exact ih2 _ _)
      | (with_reducible exact groupcontrolref2_Digits.mono _ _)
      | (with_reducible exact groupcontrolref2_value.mono _ _)
      | (with_reducible exact LeO.refl _)
      | (with_reducible exact LeO.none _)
      | (with_reducible refine LeO.ite ?_ ?_)
      | (with_reducible refine LeO.bind ?_ (fun _ => ?_))
      | exact ih0 _ _ _
      | exact ih1 _ _
      | exact ih2 _ _
      | exact groupcontrolref2_Digits.mono _ _
      | exact groupcontrolref2_value.mono _ _
      | exact LeO.none _
      | refine LeO.ite ?_ ?_
      | refine LeO.bind ?_ (fun _ => ?_)
theorem groupcontrolref2_Parse.mono : ∀ a0 k, LeO (groupcontrolref2_Parse.f k a0) (groupcontrolref2_Parse.f (k + 1) a0) := by
  intro a0 k
  obtain ⟨ih0, ih1, ih2⟩ := groupcontrolref2_Parse.mono_l k
  unfold groupcontrolref2_Parse.f
  repeat' first
      | (with_reducible exact ih0 _ _ _)
      | (with_reducible exact ih1 _ _)
      | (with_reducible exact ih2 _ _)
      | (with_reducible exact groupcontrolref2_Digits.mono _ _)
      | (with_reducible exact groupcontrolref2_value.mono _ _)
      | (with_reducible exact LeO.refl _)
      | (with_reducible exact LeO.none _)
      | (with_reducible refine LeO.ite ?_ ?_)
      | (with_reducible refine LeO.bind ?_ (fun _ => ?_))
      | exact ih0 _ _ _
      | exact ih1 _ _
      | exact ih2 _ _
      | exact groupcontrolref2_Digits.mono _ _
      | exact groupcontrolref2_value.mono _ _
      | exact LeO.none _
      | refine LeO.ite ?_ ?_
      | refine LeO.bind ?_ (fun _ => ?_)
set_option maxHeartbeats 8000000 in
set_option maxRecDepth 100000 in
theorem groupcontrolref2_Parse.calls (k : Nat) (a0 : ByteArray) (r1 : Int) (r2 : Int) (w : World) (h : groupcontrolref2_Parse.f k a0 = some (r1, r2)) :
    Calls Tryd.prog 14 #[.string a0] w fun e w' => e = .returned (.tuple #[.int .i64 r1, .int .i64 r2]) ∧ Below w.heap.size w w' := by
  have HB := Aside0.mk (Below.refl w.heap.size w)
  have H : (if a0.toList = ([109, 97, 120] : List UInt8) then (some (4611686018427387904, 0)) else ((groupcontrolref2_Digits.f k a0).bind fun t159 => (if t159 = 0 then (groupcontrolref2_Parse.j0 k a0 t159 true) else (groupcontrolref2_Parse.j0 k a0 t159 (decide ((a0.size : Int) > (wrap64 (t159 + 1)))))))) = some (r1, r2) := h
  clear h
  by_cases c2 : a0.toList = ([109, 97, 120] : List UInt8)
  · rw [if_pos c2] at H
    have c2b0 : (a0.toList == ([109, 97, 120] : List UInt8)) = true := beq_iff_eq.mpr c2
    have c2b1 : (a0.toList != ([109, 97, 120] : List UInt8)) = false := bne_eq_false_iff_eq.mpr c2
    clear c2
    simp only [Option.some.injEq, Prod.mk.injEq] at H
    obtain ⟨rfl, rfl⟩ := H
    go_enter Tryd.func14, Tryd.ntmps14
    go_wp2
    go_ret2
    exact ⟨by first | rfl | (simp [errW_none, errW_some] <;> rfl) | (simp [*, errW_none, errW_some] <;> rfl), by repeat (first | (with_reducible first | exact HB.out | apply below_alloc | apply pw_below_drewN | apply below_drew1) | exact HB.out)⟩
  · rw [if_neg c2] at H
    have c2b0 : (a0.toList == ([109, 97, 120] : List UInt8)) = false := beq_eq_false_iff_ne.mpr c2
    have c2b1 : (a0.toList != ([109, 97, 120] : List UInt8)) = true := bne_iff_ne.mpr c2
    replace H := Option.bind_eq_some_iff.mp H
    obtain ⟨t159, A30, H⟩ := H
    replace H : (if t159 = 0 then (groupcontrolref2_Parse.j0 k a0 t159 true) else (groupcontrolref2_Parse.j0 k a0 t159 (decide ((a0.size : Int) > (wrap64 (t159 + 1)))))) = some (r1, r2) := H
    have A3 := Aside0.mk A30
    clear A30
    have HC4 := Aside0.mk H
    clear H
    go_enter Tryd.func14, Tryd.ntmps14
    go_upto_region 4 with (first | ((with_reducible refine gate_callee (f := 26) rfl ?_); refine goesL_ (some 10) rfl rfl Tryd.func26 (by kernel_rfl) rfl #[.string a0] rfl (by (try simp only [List.map_toArray, List.map_cons, List.map_nil]); first | done | rfl | (simp only [List.length_drop, List.length_take]; rfl)) ?_; (with_reducible refine (groupcontrolref2_Digits.calls k a0 t159 _ A3.out).mono ?_); rintro e w' ⟨rfl, ⟨nd, rfl⟩⟩; refine ⟨_, rfl, ?_⟩))
    (try simp only [Act.put, List.setIfInBounds_toArray, List.set_cons_zero, List.set_cons_succ])
    go_cut [19] (fun v19 wc => ∃ (kq : Nat) (x19_3 : Bool), v19 = .bool x19_3 ∧ Aside0 (groupcontrolref2_Parse.j0 kq a0 t159 x19_3 = some (r1, r2)) ∧ Aside0 (kq ≤ k) ∧ Aside0 (Below w.heap.size w wc))
    case first =>
      have H := HC4.out
      clear HC4
      by_cases c5 : t159 = 0
      · rw [if_pos c5] at H
        have c5b0 : (t159 == 0) = true := beq_iff_eq.mpr c5
        have c5b1 : (t159 != 0) = false := bne_eq_false_iff_eq.mpr c5
        clear c5
        (first | rw [c5b0] | (simp only [i64_w, i32_w]; rw [c5b0]) | skip)
        have H' := Aside0.mk H
        clear H
        go_wp2
        go_meet
        case rel => exact ⟨_, (true), (by first | rfl | (simp; done) | (simp [*]; done)), H', ⟨by first | omega | exact Nat.le_refl _⟩, ⟨by repeat (first | (with_reducible first | exact HB.out | apply below_alloc | apply pw_below_drewN | apply below_drew1) | exact HB.out)⟩⟩
      · rw [if_neg c5] at H
        have c5b0 : (t159 == 0) = false := beq_eq_false_iff_ne.mpr c5
        have c5b1 : (t159 != 0) = true := bne_iff_ne.mpr c5
        (first | rw [c5b0] | (simp only [i64_w, i32_w]; rw [c5b0]) | skip)
        have H' := Aside0.mk H
        clear H
        go_wp2
        go_meet
        case rel => exact ⟨_, (decide ((a0.size : Int) > (wrap64 (t159 + 1)))), (by first | rfl | (simp; done) | (simp [*]; done)), H', ⟨by first | omega | exact Nat.le_refl _⟩, ⟨by repeat (first | (with_reducible first | exact HB.out | apply below_alloc | apply pw_below_drewN | apply below_drew1) | exact HB.out)⟩⟩
    case rest =>
      clear HC4
      try clear c1
      try clear c2
      try clear c2b0
      try clear c2b1
      try clear p2
      try clear c5
      try clear c5b0
      try clear c5b1
      obtain ⟨kq, x19_3, rfl, HA, HJ3, HB⟩ := hcut
      cases kq with
      | zero => exact absurd HA.out (by simp [groupcontrolref2_Parse.j0])
      | succ kj3 =>
        have H := HA.out
        clear HA
        simp only [groupcontrolref2_Parse.j0] at H
        by_cases c6 : x19_3 = true
        · subst c6
          have H1 : (some (0, 2)) = some (r1, r2) := by rw [if_pos rfl] at H; exact H
          clear H
          have H := H1
          clear H1
          simp only [Option.some.injEq, Prod.mk.injEq] at H
          obtain ⟨rfl, rfl⟩ := H
          go_wp2
          go_ret2
          exact ⟨by first | rfl | (simp [errW_none, errW_some] <;> rfl) | (simp [*, errW_none, errW_some] <;> rfl), by repeat (first | (with_reducible first | exact HB.out | apply below_alloc | apply pw_below_drewN | apply below_drew1) | exact HB.out)⟩
        · replace c6 := Bool.eq_false_iff.mpr c6
          subst c6
          have H1 : (if 0 ≤ t159 then (if t159 ≤ (a0.size : Int) then ((groupcontrolref2_value.f kj3 (a0.extract 0 (t159 : Int).toNat)).bind fun t160 => (if (a0.size : Int) = (wrap64 (t159 + 1)) then (if t159 < (a0.size : Int) then (if (bt a0 t159) = 75 then (groupcontrolref2_Parse.j1 kj3 t160 1) else (if (bt a0 t159) = 77 then (groupcontrolref2_Parse.j1 kj3 t160 2) else (if (bt a0 t159) = 71 then (groupcontrolref2_Parse.j1 kj3 t160 3) else (if (bt a0 t159) = 84 then (groupcontrolref2_Parse.j1 kj3 t160 4) else (some (0, 2)))))) else (none)) else (if t160 > 1099511627776 then (some (0, 3)) else (some (t160, 0))))) else (none)) else (none)) = some (r1, r2) := by rw [if_neg (show ¬ (false = true) by decide)] at H; exact H
          clear H
          have H := H1
          clear H1
          by_cases c7 : 0 ≤ t159
          · rw [if_pos c7] at H
            have c7b0 := eq_true c7
            have c7b1 : decide (0 ≤ t159) = true := decide_eq_true c7
            clear c7
            by_cases c8 : t159 ≤ (a0.size : Int)
            · rw [if_pos c8] at H
              have c8b0 := eq_true c8
              have c8b1 : decide (t159 ≤ (a0.size : Int)) = true := decide_eq_true c8
              clear c8
              replace H := Option.bind_eq_some_iff.mp H
              obtain ⟨t160, A90, H⟩ := H
              replace H : (if (a0.size : Int) = (wrap64 (t159 + 1)) then (if t159 < (a0.size : Int) then (if (bt a0 t159) = 75 then (groupcontrolref2_Parse.j1 kj3 t160 1) else (if (bt a0 t159) = 77 then (groupcontrolref2_Parse.j1 kj3 t160 2) else (if (bt a0 t159) = 71 then (groupcontrolref2_Parse.j1 kj3 t160 3) else (if (bt a0 t159) = 84 then (groupcontrolref2_Parse.j1 kj3 t160 4) else (some (0, 2)))))) else (none)) else (if t160 > 1099511627776 then (some (0, 3)) else (some (t160, 0)))) = some (r1, r2) := H
              have A9 := Aside0.mk A90
              clear A90
              by_cases c10 : (a0.size : Int) = (wrap64 (t159 + 1))
              · rw [if_pos c10] at H
                have c10b0 : ((a0.size : Int) == (wrap64 (t159 + 1))) = true := beq_iff_eq.mpr c10
                have c10b1 : ((a0.size : Int) != (wrap64 (t159 + 1))) = false := bne_eq_false_iff_eq.mpr c10
                clear c10
                by_cases c11 : t159 < (a0.size : Int)
                · rw [if_pos c11] at H
                  have c11b0 : decide (t159 < (a0.size : Int)) = true := decide_eq_true c11
                  clear c11
                  have HC13 := Aside0.mk H
                  clear H
                  go_upto_block 0 with (first | ((with_reducible refine gate_callee (f := 27) rfl ?_); refine goesL_ (some 23) rfl rfl Tryd.func27 (by kernel_rfl) rfl #[.string (a0.extract 0 (t159 : Int).toNat)] rfl (by (try simp only [List.map_toArray, List.map_cons, List.map_nil]); first | done | rfl | (simp only [List.length_drop, List.length_take]; rfl)) ?_; (with_reducible refine (groupcontrolref2_value.calls kj3 (a0.extract 0 (t159 : Int).toNat) t160 _ A9.out).mono ?_); rintro e w14 ⟨rfl, hb⟩; refine ⟨_, rfl, ?_⟩; have n0_ := Aside0.mk (below_step (by repeat (first | (with_reducible first | exact HB.out | apply below_alloc | apply pw_below_drewN | apply below_drew1) | exact HB.out)) hb); clear HB; have HB := n0_; clear n0_; (try clear hb); (try clear hb2); (try clear hk); (try clear hi); have p12 : 0 ≤ (t159 : Int) := of_decide_eq_true (by first | (with_reducible assumption) | assumption); have q12 : t159 < (a0.size : Int) := of_decide_eq_true (by first | (with_reducible assumption) | assumption); have hx12 := bt_at a0 t159; replace p12 := eq_true p12; replace q12 := eq_true q12))
                  (try simp only [Act.put, List.setIfInBounds_toArray, List.set_cons_zero, List.set_cons_succ])
                  go_cut [6] (fun v6 wc => ∃ (kq : Nat) (x6_12 : Int), v6 = .int .i64 x6_12 ∧ Aside0 (groupcontrolref2_Parse.j1 kq t160 x6_12 = some (r1, r2)) ∧ Aside0 (kq ≤ kj3) ∧ Aside0 (Below w.heap.size w wc))
                  case first =>
                    have H := HC13.out
                    clear HC13
                    by_cases c15 : (bt a0 t159) = 75
                    · rw [if_pos c15] at H
                      have c15b0 : ((bt a0 t159) == 75) = true := beq_iff_eq.mpr c15
                      have c15b1 : ((bt a0 t159) != 75) = false := bne_eq_false_iff_eq.mpr c15
                      clear c15
                      (first | rw [c15b0] | (simp only [i64_w, i32_w]; rw [c15b0]) | skip)
                      have H' := Aside0.mk H
                      clear H
                      go_wp2
                      go_meet
                      case rel => exact ⟨_, (1), (by first | rfl | (simp; done) | (simp [*]; done)), H', ⟨by have := HJ3.out; first | omega | exact Nat.le_refl _⟩, ⟨by repeat (first | (with_reducible first | exact HB.out | apply below_alloc | apply pw_below_drewN | apply below_drew1) | exact HB.out)⟩⟩
                    · rw [if_neg c15] at H
                      have c15b0 : ((bt a0 t159) == 75) = false := beq_eq_false_iff_ne.mpr c15
                      have c15b1 : ((bt a0 t159) != 75) = true := bne_iff_ne.mpr c15
                      (first | rw [c15b0] | (simp only [i64_w, i32_w]; rw [c15b0]) | skip)
                      by_cases c16 : (bt a0 t159) = 77
                      · rw [if_pos c16] at H
                        have c16b0 : ((bt a0 t159) == 77) = true := beq_iff_eq.mpr c16
                        have c16b1 : ((bt a0 t159) != 77) = false := bne_eq_false_iff_eq.mpr c16
                        clear c16
                        have H' := Aside0.mk H
                        clear H
                        go_wp2
                        go_meet
                        case rel => exact ⟨_, (2), (by first | rfl | (simp; done) | (simp [*]; done)), H', ⟨by have := HJ3.out; first | omega | exact Nat.le_refl _⟩, ⟨by repeat (first | (with_reducible first | exact HB.out | apply below_alloc | apply pw_below_drewN | apply below_drew1) | exact HB.out)⟩⟩
                      · rw [if_neg c16] at H
                        have c16b0 : ((bt a0 t159) == 77) = false := beq_eq_false_iff_ne.mpr c16
                        have c16b1 : ((bt a0 t159) != 77) = true := bne_iff_ne.mpr c16
                        by_cases c17 : (bt a0 t159) = 71
                        · rw [if_pos c17] at H
                          have c17b0 : ((bt a0 t159) == 71) = true := beq_iff_eq.mpr c17
                          have c17b1 : ((bt a0 t159) != 71) = false := bne_eq_false_iff_eq.mpr c17
                          clear c17
                          have H' := Aside0.mk H
                          clear H
                          go_wp2
                          go_meet
                          case rel => exact ⟨_, (3), (by first | rfl | (simp; done) | (simp [*]; done)), H', ⟨by have := HJ3.out; first | omega | exact Nat.le_refl _⟩, ⟨by repeat (first | (with_reducible first | exact HB.out | apply below_alloc | apply pw_below_drewN | apply below_drew1) | exact HB.out)⟩⟩
                        · rw [if_neg c17] at H
                          have c17b0 : ((bt a0 t159) == 71) = false := beq_eq_false_iff_ne.mpr c17
                          have c17b1 : ((bt a0 t159) != 71) = true := bne_iff_ne.mpr c17
                          by_cases c18 : (bt a0 t159) = 84
                          · rw [if_pos c18] at H
                            have c18b0 : ((bt a0 t159) == 84) = true := beq_iff_eq.mpr c18
                            have c18b1 : ((bt a0 t159) != 84) = false := bne_eq_false_iff_eq.mpr c18
                            clear c18
                            have H' := Aside0.mk H
                            clear H
                            go_wp2
                            go_meet
                            case rel => exact ⟨_, (4), (by first | rfl | (simp; done) | (simp [*]; done)), H', ⟨by have := HJ3.out; first | omega | exact Nat.le_refl _⟩, ⟨by repeat (first | (with_reducible first | exact HB.out | apply below_alloc | apply pw_below_drewN | apply below_drew1) | exact HB.out)⟩⟩
                          · rw [if_neg c18] at H
                            have c18b0 : ((bt a0 t159) == 84) = false := beq_eq_false_iff_ne.mpr c18
                            have c18b1 : ((bt a0 t159) != 84) = true := bne_iff_ne.mpr c18
                            simp only [Option.some.injEq, Prod.mk.injEq] at H
                            obtain ⟨rfl, rfl⟩ := H
                            go_wp2
                            go_ret2
                            exact ⟨by first | rfl | (simp [errW_none, errW_some] <;> rfl) | (simp [*, errW_none, errW_some] <;> rfl), by repeat (first | (with_reducible first | exact HB.out | apply below_alloc | apply pw_below_drewN | apply below_drew1) | exact HB.out)⟩
                  case rest =>
                    clear HC13
                    try clear c1
                    try clear p1
                    try clear q1
                    try clear hx1
                    try clear c2
                    try clear c2b0
                    try clear c2b1
                    try clear p2
                    try clear c5
                    try clear c5b0
                    try clear c5b1
                    try clear c6
                    try clear p6
                    try clear c7
                    try clear c7b0
                    try clear c7b1
                    try clear c8
                    try clear c8b0
                    try clear c8b1
                    try clear c10
                    try clear c10b0
                    try clear c10b1
                    try clear c11
                    try clear c11b0
                    try clear p12
                    try clear q12
                    try clear hx12
                    try clear c14
                    try clear c15
                    try clear c15b0
                    try clear c15b1
                    try clear c16
                    try clear c16b0
                    try clear c16b1
                    try clear c17
                    try clear c17b0
                    try clear c17b1
                    try clear c18
                    try clear c18b0
                    try clear c18b1
                    try clear p12
                    try clear p2
                    try clear q12
                    obtain ⟨kq, x6_12, rfl, HA, HJ12, HB⟩ := hcut
                    cases kq with
                    | zero => exact absurd HA.out (by simp [groupcontrolref2_Parse.j1])
                    | succ kj12 =>
                      have H := HA.out
                      clear HA
                      simp only [groupcontrolref2_Parse.j1] at H
                      have H' := Aside0.mk H
                      clear H
                      go_wp2
                      go_loopg [5, 6] kj12 (fun kq v5 v6 w' => ∃ (x5_3 : Int) (x6_3 : Int), v5 = .int .i64 x5_3 ∧ v6 = .int .i64 x6_3 ∧ Aside0 (groupcontrolref2_Parse.l0 kq x5_3 x6_3 = some (r1, r2)) ∧ Aside0 (kq ≤ kj12) ∧ Aside0 (Below w.heap.size w w'))
                      case atStart => exact ⟨(t160), (x6_12), (by first | rfl | (simp; done) | (simp [*]; done)), (by first | rfl | (simp; done) | (simp [*]; done)), H', ⟨Nat.le_refl _⟩, ⟨by repeat (first | (with_reducible first | exact HB.out | apply below_alloc | apply pw_below_drewN | apply below_drew1) | exact HB.out)⟩⟩
                      case round =>
                        clear H'
                        try clear c1
                        try clear p1
                        try clear q1
                        try clear hx1
                        try clear c2
                        try clear c2b0
                        try clear c2b1
                        try clear p2
                        try clear c5
                        try clear c5b0
                        try clear c5b1
                        try clear c6
                        try clear p6
                        try clear c7
                        try clear c7b0
                        try clear c7b1
                        try clear c8
                        try clear c8b0
                        try clear c8b1
                        try clear c10
                        try clear c10b0
                        try clear c10b1
                        try clear c11
                        try clear c11b0
                        try clear p12
                        try clear q12
                        try clear hx12
                        try clear c14
                        try clear c15
                        try clear c15b0
                        try clear c15b1
                        try clear c16
                        try clear c16b0
                        try clear c16b1
                        try clear c17
                        try clear c17b0
                        try clear c17b1
                        try clear c18
                        try clear c18b0
                        try clear c18b1
                        try clear p1
                        try clear p12
                        try clear p2
                        try clear p6
                        try clear q1
                        try clear q12
                        obtain ⟨x5_3, x6_3, rfl, rfl, HA, HK3, HB⟩ := hrel
                        cases gk with
                        | zero => exact absurd HA.out (by simp [groupcontrolref2_Parse.l0])
                        | succ k3 =>
                          have H := HA.out
                          clear HA
                          simp only [groupcontrolref2_Parse.l0] at H
                          by_cases c19 : x6_3 > 0
                          · rw [if_pos c19] at H
                            have c19b0 : decide (0 < x6_3) = true := decide_eq_true c19
                            clear c19
                            obtain ⟨ji20, hji20⟩ : ∃ j_ : Int, (mn (wrap64 (1024 * x5_3)) 1099511627777) = j_ := ⟨_, rfl⟩
                            replace H : (groupcontrolref2_Parse.l0 k3 ji20 (wrap64 (x6_3 - 1))) = some (r1, r2) := by first | (rw [hji20] at H; exact H) | (simp only [hji20] at H ⊢; exact H)
                            have hji20_ : (if 1099511627777 < (wrap64 (1024 * x5_3)) then 1099511627777 else (wrap64 (1024 * x5_3))) = ji20 := hji20
                            have H' := Aside0.mk H
                            clear H
                            go_wp2
                            go_roundg k3
                            case measure => have := HJ3.out; have := HJ12.out; have := HK3.out; omega
                            case rel => exact ⟨(ji20), (wrap64 (x6_3 - 1)), (by first | rfl | (simp; done) | (simp only [← hji20] <;> (first | rfl | simp)) | (simp [*]; done)), (by first | rfl | (simp; done) | (simp [*]; done)), H', ⟨by have := HJ3.out; have := HJ12.out; have := HK3.out; omega⟩, ⟨by repeat (first | (with_reducible first | exact HB.out | apply below_alloc | apply pw_below_drewN | apply below_drew1) | exact HB.out)⟩⟩
                          · rw [if_neg c19] at H
                            have c19b0 : decide (0 < x6_3) = false := decide_eq_false c19
                            clear c19
                            by_cases c21 : x5_3 > 1099511627776
                            · rw [if_pos c21] at H
                              have c21b0 : decide (1099511627776 < x5_3) = true := decide_eq_true c21
                              clear c21
                              simp only [Option.some.injEq, Prod.mk.injEq] at H
                              obtain ⟨rfl, rfl⟩ := H
                              go_wp2
                              go_ret2
                              exact ⟨by first | rfl | (simp [errW_none, errW_some] <;> rfl) | (simp [*, errW_none, errW_some] <;> rfl), by repeat (first | (with_reducible first | exact HB.out | apply below_alloc | apply pw_below_drewN | apply below_drew1) | exact HB.out)⟩
                            · rw [if_neg c21] at H
                              have c21b0 : decide (1099511627776 < x5_3) = false := decide_eq_false c21
                              clear c21
                              simp only [Option.some.injEq, Prod.mk.injEq] at H
                              obtain ⟨rfl, rfl⟩ := H
                              go_wp2
                              go_ret2
                              exact ⟨by first | rfl | (simp [errW_none, errW_some] <;> rfl) | (simp [*, errW_none, errW_some] <;> rfl), by repeat (first | (with_reducible first | exact HB.out | apply below_alloc | apply pw_below_drewN | apply below_drew1) | exact HB.out)⟩
                · rw [if_neg c11] at H
                  exact absurd H (by simp)
              · rw [if_neg c10] at H
                have c10b0 : ((a0.size : Int) == (wrap64 (t159 + 1))) = false := beq_eq_false_iff_ne.mpr c10
                have c10b1 : ((a0.size : Int) != (wrap64 (t159 + 1))) = true := bne_iff_ne.mpr c10
                by_cases c22 : t160 > 1099511627776
                · rw [if_pos c22] at H
                  have c22b0 : decide (1099511627776 < t160) = true := decide_eq_true c22
                  clear c22
                  simp only [Option.some.injEq, Prod.mk.injEq] at H
                  obtain ⟨rfl, rfl⟩ := H
                  go_wp2_with (first | ((with_reducible refine gate_callee (f := 27) rfl ?_); refine goesL_ (some 23) rfl rfl Tryd.func27 (by kernel_rfl) rfl #[.string (a0.extract 0 (t159 : Int).toNat)] rfl (by (try simp only [List.map_toArray, List.map_cons, List.map_nil]); first | done | rfl | (simp only [List.length_drop, List.length_take]; rfl)) ?_; (with_reducible refine (groupcontrolref2_value.calls kj3 (a0.extract 0 (t159 : Int).toNat) t160 _ A9.out).mono ?_); rintro e w23 ⟨rfl, hb⟩; refine ⟨_, rfl, ?_⟩; have n0_ := Aside0.mk (below_step (by repeat (first | (with_reducible first | exact HB.out | apply below_alloc | apply pw_below_drewN | apply below_drew1) | exact HB.out)) hb); clear HB; have HB := n0_; clear n0_; (try clear hb); (try clear hb2); (try clear hk); (try clear hi)))
                  go_ret2
                  exact ⟨by first | rfl | (simp [errW_none, errW_some] <;> rfl) | (simp [*, errW_none, errW_some] <;> rfl), by repeat (first | (with_reducible first | exact HB.out | apply below_alloc | apply pw_below_drewN | apply below_drew1) | exact HB.out)⟩
                · rw [if_neg c22] at H
                  have c22b0 : decide (1099511627776 < t160) = false := decide_eq_false c22
                  clear c22
                  simp only [Option.some.injEq, Prod.mk.injEq] at H
                  obtain ⟨rfl, rfl⟩ := H
                  go_wp2_with (first | ((with_reducible refine gate_callee (f := 27) rfl ?_); refine goesL_ (some 23) rfl rfl Tryd.func27 (by kernel_rfl) rfl #[.string (a0.extract 0 (t159 : Int).toNat)] rfl (by (try simp only [List.map_toArray, List.map_cons, List.map_nil]); first | done | rfl | (simp only [List.length_drop, List.length_take]; rfl)) ?_; (with_reducible refine (groupcontrolref2_value.calls kj3 (a0.extract 0 (t159 : Int).toNat) t160 _ A9.out).mono ?_); rintro e w24 ⟨rfl, hb⟩; refine ⟨_, rfl, ?_⟩; have n0_ := Aside0.mk (below_step (by repeat (first | (with_reducible first | exact HB.out | apply below_alloc | apply pw_below_drewN | apply below_drew1) | exact HB.out)) hb); clear HB; have HB := n0_; clear n0_; (try clear hb); (try clear hb2); (try clear hk); (try clear hi)))
                  go_ret2
                  exact ⟨by first | rfl | (simp [errW_none, errW_some] <;> rfl) | (simp [*, errW_none, errW_some] <;> rfl), by repeat (first | (with_reducible first | exact HB.out | apply below_alloc | apply pw_below_drewN | apply below_drew1) | exact HB.out)⟩
            · rw [if_neg c8] at H
              exact absurd H (by simp)
          · rw [if_neg c7] at H
            exact absurd H (by simp)

end Go.Proofs.YtgfbamddaepebaaDoor.PN
