/- Contracts of functions of the program and of its references, over the translation, for values that can be read as data: each call comes to what a Lean function says. Written by the kit's printer and a program of this session's, with hand-made contracts spliced in. -/
import Derived.Test.YtgfbamddaepebaaDoorPNx0
import Derived.Test.YtgfbamddaepebaaDoorPNx1
import Derived.Test.YtgfbamddaepebaaDoorPNx2
import Derived.Test.YtgfbamddaepebaaDoorPNx6
import Derived.Test.YtgfbamddaepebaaDoorPNx7
import Derived.Test.YtgfbamddaepebaaDoorPNx10
namespace Go.Proofs.YtgfbamddaepebaaDoor.PN
open Go.RowKit Go.Proofs.YtgfbamddaepebaaDoorW.PrintWords Go.Proofs.YtgfbamddaepebaaDoorW.PrintLast Go.Proofs.YtgfbamddaepebaaDoorW.PrintMore
attribute [local go_sem] max2_int min2_int max_two min_two max_three min_three max_four min_four   -- for this text's walks alone
set_option linter.unusedVariables false
set_option linter.unusedSimpArgs false

/-! ### groupcontrollaw2_NumberParts: function 3 -/
def groupcontrollaw2_NumberParts.j0 : Nat → Int → Bool → Option (Bool)
  | 0, _, _ => none
  | k + 1, x5, x67 => if x67 = true then (some false) else ((groupcontrolref2_Decimal.f k (wrap64 (Int.tdiv x5 100))).bind fun t133 => ((number_Hundredths.f k t133).bind fun bt134 => ((groupcontrolref2_Decimal.f k (wrap64 (Int.tdiv x5 100))).bind fun t136 => (if t136.size + 1 ≤ 9223372036854775807 then ((groupcontrolref2_Decimal.f k (Int.tmod (wrap64 (Int.tdiv x5 10)) 10)).bind fun t137 => (if (t136 ++ (⟨#[46]⟩ : ByteArray)).size + t137.size ≤ 9223372036854775807 then ((number_Hundredths.f k ((t136 ++ (⟨#[46]⟩ : ByteArray)) ++ t137)).bind fun bt138 => (if bt134.2 = 0 then (if bt138.2 = 0 then (if bt134.1 = (wrap64 ((wrap64 (Int.tdiv x5 100)) * 100)) then (if bt138.1 = (wrap64 ((wrap64 (Int.tdiv x5 10)) * 10)) then ((groupcontrollaw2_sane.f k).bind fun t140 => (some t140)) else (some false)) else (some false)) else (some false)) else (some false))) else (none))) else (none)))))
def groupcontrollaw2_NumberParts.f (k : Nat) (a0 : Int) (a1 : Int) : Option (Bool) := (number_FormatHundredths.f (Int.tmod (wrap64 (a0)) 10000)).bind fun bt125 => ((number_FormatHundredths.f (Int.tmod (wrap64 (a1)) 10000)).bind fun bt127 => ((number_Hundredths.f k bt125.1).bind fun bt129 => ((number_Hundredths.f k bt127.1).bind fun bt131 => (if bt125.2 = 0 then (if bt127.2 = 0 then (if bt129.2 = 0 then (if bt131.2 = 0 then (groupcontrollaw2_NumberParts.j0 k (Int.tmod (wrap64 (a0)) 10000) ((decide ((Int.tmod (wrap64 (a0)) 10000) < (Int.tmod (wrap64 (a1)) 10000))) != (decide (bt129.1 < bt131.1)))) else (groupcontrollaw2_NumberParts.j0 k (Int.tmod (wrap64 (a0)) 10000) true)) else (groupcontrollaw2_NumberParts.j0 k (Int.tmod (wrap64 (a0)) 10000) true)) else (groupcontrollaw2_NumberParts.j0 k (Int.tmod (wrap64 (a0)) 10000) true)) else (groupcontrollaw2_NumberParts.j0 k (Int.tmod (wrap64 (a0)) 10000) true)))))
theorem groupcontrollaw2_NumberParts.mono_l : ∀ k, (∀ y0 y1, LeO (groupcontrollaw2_NumberParts.j0 k y0 y1) (groupcontrollaw2_NumberParts.j0 (k + 1) y0 y1))
  | 0 => fun _ _ r h => by simp [groupcontrollaw2_NumberParts.j0] at h
  | k + 1 => by
    have ih0 := groupcontrollaw2_NumberParts.mono_l k
    · intro y0 y1
      unfold groupcontrollaw2_NumberParts.j0
      repeat' first
      | (with_reducible exact ih0 _ _)
      | (with_reducible exact groupcontrollaw2_sane.mono _)
      | (with_reducible exact groupcontrolref2_Decimal.mono _ _)
      | (with_reducible exact number_Hundredths.mono _ _)
      | (with_reducible exact LeO.refl _)
      | (with_reducible exact LeO.none _)
      | (with_reducible refine LeO.ite ?_ ?_)
      | (with_reducible refine LeO.bind ?_ (fun _ => ?_))
      | exact ih0 _ _
      | exact groupcontrollaw2_sane.mono _
      | exact groupcontrolref2_Decimal.mono _ _
      | exact number_Hundredths.mono _ _
      | exact LeO.none _
      | refine LeO.ite ?_ ?_
      | refine LeO.bind ?_ (fun _ => ?_)
theorem groupcontrollaw2_NumberParts.mono : ∀ a0 a1 k, LeO (groupcontrollaw2_NumberParts.f k a0 a1) (groupcontrollaw2_NumberParts.f (k + 1) a0 a1) := by
  intro a0 a1 k
  have ih0 := groupcontrollaw2_NumberParts.mono_l k
  unfold groupcontrollaw2_NumberParts.f
  repeat' first
      | (with_reducible exact ih0 _ _)
      | (with_reducible exact groupcontrollaw2_sane.mono _)
      | (with_reducible exact groupcontrolref2_Decimal.mono _ _)
      | (with_reducible exact number_Hundredths.mono _ _)
      | (with_reducible exact LeO.refl _)
      | (with_reducible exact LeO.none _)
      | (with_reducible refine LeO.ite ?_ ?_)
      | (with_reducible refine LeO.bind ?_ (fun _ => ?_))
      | exact ih0 _ _
      | exact groupcontrollaw2_sane.mono _
      | exact groupcontrolref2_Decimal.mono _ _
      | exact number_Hundredths.mono _ _
      | exact LeO.none _
      | refine LeO.ite ?_ ?_
      | refine LeO.bind ?_ (fun _ => ?_)
set_option maxHeartbeats 8000000 in
set_option maxRecDepth 100000 in
theorem groupcontrollaw2_NumberParts.calls (k : Nat) (a0 : Int) (a1 : Int) (r : Bool) (w : World) (hLaid : LaidW w) (h : groupcontrollaw2_NumberParts.f k a0 a1 = some r) :
    Calls Tryd.prog 3 #[.int .u16 a0, .int .u16 a1] w fun e w' => e = .returned (.bool r) ∧ Below w.heap.size w w' := by
  have HLAID := Aside0.mk hLaid
  clear hLaid
  have HB := Aside0.mk (Below.refl w.heap.size w)
  have H : ((number_FormatHundredths.f (Int.tmod (wrap64 (a0)) 10000)).bind fun bt125 => ((number_FormatHundredths.f (Int.tmod (wrap64 (a1)) 10000)).bind fun bt127 => ((number_Hundredths.f k bt125.1).bind fun bt129 => ((number_Hundredths.f k bt127.1).bind fun bt131 => (if bt125.2 = 0 then (if bt127.2 = 0 then (if bt129.2 = 0 then (if bt131.2 = 0 then (groupcontrollaw2_NumberParts.j0 k (Int.tmod (wrap64 (a0)) 10000) ((decide ((Int.tmod (wrap64 (a0)) 10000) < (Int.tmod (wrap64 (a1)) 10000))) != (decide (bt129.1 < bt131.1)))) else (groupcontrollaw2_NumberParts.j0 k (Int.tmod (wrap64 (a0)) 10000) true)) else (groupcontrollaw2_NumberParts.j0 k (Int.tmod (wrap64 (a0)) 10000) true)) else (groupcontrollaw2_NumberParts.j0 k (Int.tmod (wrap64 (a0)) 10000) true)) else (groupcontrollaw2_NumberParts.j0 k (Int.tmod (wrap64 (a0)) 10000) true)))))) = some r := h
  clear h
  replace H := Option.bind_eq_some_iff.mp H
  obtain ⟨⟨t125, t126⟩, A30, H⟩ := H
  replace H : ((number_FormatHundredths.f (Int.tmod (wrap64 (a1)) 10000)).bind fun bt127 => ((number_Hundredths.f k t125).bind fun bt129 => ((number_Hundredths.f k bt127.1).bind fun bt131 => (if t126 = 0 then (if bt127.2 = 0 then (if bt129.2 = 0 then (if bt131.2 = 0 then (groupcontrollaw2_NumberParts.j0 k (Int.tmod (wrap64 (a0)) 10000) ((decide ((Int.tmod (wrap64 (a0)) 10000) < (Int.tmod (wrap64 (a1)) 10000))) != (decide (bt129.1 < bt131.1)))) else (groupcontrollaw2_NumberParts.j0 k (Int.tmod (wrap64 (a0)) 10000) true)) else (groupcontrollaw2_NumberParts.j0 k (Int.tmod (wrap64 (a0)) 10000) true)) else (groupcontrollaw2_NumberParts.j0 k (Int.tmod (wrap64 (a0)) 10000) true)) else (groupcontrollaw2_NumberParts.j0 k (Int.tmod (wrap64 (a0)) 10000) true))))) = some r := H
  have A3 := Aside0.mk A30
  clear A30
  replace H := Option.bind_eq_some_iff.mp H
  obtain ⟨⟨t127, t128⟩, A40, H⟩ := H
  replace H : ((number_Hundredths.f k t125).bind fun bt129 => ((number_Hundredths.f k t127).bind fun bt131 => (if t126 = 0 then (if t128 = 0 then (if bt129.2 = 0 then (if bt131.2 = 0 then (groupcontrollaw2_NumberParts.j0 k (Int.tmod (wrap64 (a0)) 10000) ((decide ((Int.tmod (wrap64 (a0)) 10000) < (Int.tmod (wrap64 (a1)) 10000))) != (decide (bt129.1 < bt131.1)))) else (groupcontrollaw2_NumberParts.j0 k (Int.tmod (wrap64 (a0)) 10000) true)) else (groupcontrollaw2_NumberParts.j0 k (Int.tmod (wrap64 (a0)) 10000) true)) else (groupcontrollaw2_NumberParts.j0 k (Int.tmod (wrap64 (a0)) 10000) true)) else (groupcontrollaw2_NumberParts.j0 k (Int.tmod (wrap64 (a0)) 10000) true)))) = some r := H
  have A4 := Aside0.mk A40
  clear A40
  replace H := Option.bind_eq_some_iff.mp H
  obtain ⟨⟨t129, t130⟩, A50, H⟩ := H
  replace H : ((number_Hundredths.f k t127).bind fun bt131 => (if t126 = 0 then (if t128 = 0 then (if t130 = 0 then (if bt131.2 = 0 then (groupcontrollaw2_NumberParts.j0 k (Int.tmod (wrap64 (a0)) 10000) ((decide ((Int.tmod (wrap64 (a0)) 10000) < (Int.tmod (wrap64 (a1)) 10000))) != (decide (t129 < bt131.1)))) else (groupcontrollaw2_NumberParts.j0 k (Int.tmod (wrap64 (a0)) 10000) true)) else (groupcontrollaw2_NumberParts.j0 k (Int.tmod (wrap64 (a0)) 10000) true)) else (groupcontrollaw2_NumberParts.j0 k (Int.tmod (wrap64 (a0)) 10000) true)) else (groupcontrollaw2_NumberParts.j0 k (Int.tmod (wrap64 (a0)) 10000) true))) = some r := H
  have A5 := Aside0.mk A50
  clear A50
  replace H := Option.bind_eq_some_iff.mp H
  obtain ⟨⟨t131, t132⟩, A60, H⟩ := H
  replace H : (if t126 = 0 then (if t128 = 0 then (if t130 = 0 then (if t132 = 0 then (groupcontrollaw2_NumberParts.j0 k (Int.tmod (wrap64 (a0)) 10000) ((decide ((Int.tmod (wrap64 (a0)) 10000) < (Int.tmod (wrap64 (a1)) 10000))) != (decide (t129 < t131)))) else (groupcontrollaw2_NumberParts.j0 k (Int.tmod (wrap64 (a0)) 10000) true)) else (groupcontrollaw2_NumberParts.j0 k (Int.tmod (wrap64 (a0)) 10000) true)) else (groupcontrollaw2_NumberParts.j0 k (Int.tmod (wrap64 (a0)) 10000) true)) else (groupcontrollaw2_NumberParts.j0 k (Int.tmod (wrap64 (a0)) 10000) true)) = some r := H
  have A6 := Aside0.mk A60
  clear A60
  have HC7 := Aside0.mk H
  clear H
  go_enter Tryd.func3, Tryd.ntmps3
  go_upto_region 6 with (first | ((with_reducible refine gate_callee (f := 6) rfl ?_); refine goesL_ (some 27) rfl rfl Tryd.func6 (by kernel_rfl) rfl #[.int .i64 (Int.tmod (wrap64 (a0)) 10000)] rfl (by (try simp only [List.map_toArray, List.map_cons, List.map_nil]); first | done | rfl | (simp only [List.length_drop, List.length_take]; rfl)) ?_; (with_reducible refine (number_FormatHundredths.calls (hLaid := by first | exact HLAID.out | exact LaidW.below HLAID.out (by repeat (first | (with_reducible first | exact HB.out | apply below_alloc | apply pw_below_drewN | apply below_drew1) | exact HB.out | exact Aside0.out (by assumption)))) (Int.tmod (wrap64 (a0)) 10000) t125 t126 _ A3.out).mono ?_); rintro e w8 ⟨rfl, hb⟩; refine ⟨_, rfl, ?_⟩; have n0_ := Aside0.mk (below_step (by repeat (first | (with_reducible first | exact HB.out | apply below_alloc | apply pw_below_drewN | apply below_drew1) | exact HB.out)) hb); clear HB; have HB := n0_; clear n0_; (try clear hb); (try clear hb2); (try clear hk); (try clear hi)) | ((with_reducible refine gate_callee (f := 6) rfl ?_); refine goesL_ (some 32) rfl rfl Tryd.func6 (by kernel_rfl) rfl #[.int .i64 (Int.tmod (wrap64 (a1)) 10000)] rfl (by (try simp only [List.map_toArray, List.map_cons, List.map_nil]); first | done | rfl | (simp only [List.length_drop, List.length_take]; rfl)) ?_; (with_reducible refine (number_FormatHundredths.calls (hLaid := by first | exact HLAID.out | exact LaidW.below HLAID.out (by repeat (first | (with_reducible first | exact HB.out | apply below_alloc | apply pw_below_drewN | apply below_drew1) | exact HB.out | exact Aside0.out (by assumption)))) (Int.tmod (wrap64 (a1)) 10000) t127 t128 _ A4.out).mono ?_); rintro e w9 ⟨rfl, hb⟩; refine ⟨_, rfl, ?_⟩; have n0_ := Aside0.mk (below_step (by repeat (first | (with_reducible first | exact HB.out | apply below_alloc | apply pw_below_drewN | apply below_drew1) | exact HB.out)) hb); clear HB; have HB := n0_; clear n0_; (try clear hb); (try clear hb2); (try clear hk); (try clear hi)) | ((with_reducible refine gate_callee (f := 7) rfl ?_); refine goesL_ (some 37) rfl rfl Tryd.func7 (by kernel_rfl) rfl #[.string t125] rfl (by (try simp only [List.map_toArray, List.map_cons, List.map_nil]); first | done | rfl | (simp only [List.length_drop, List.length_take]; rfl)) ?_; (with_reducible refine (number_Hundredths.calls k t125 t129 t130 _ A5.out).mono ?_); rintro e w10 ⟨rfl, hb⟩; refine ⟨_, rfl, ?_⟩; have n0_ := Aside0.mk (below_step (by repeat (first | (with_reducible first | exact HB.out | apply below_alloc | apply pw_below_drewN | apply below_drew1) | exact HB.out)) hb); clear HB; have HB := n0_; clear n0_; (try clear hb); (try clear hb2); (try clear hk); (try clear hi)) | ((with_reducible refine gate_callee (f := 7) rfl ?_); refine goesL_ (some 42) rfl rfl Tryd.func7 (by kernel_rfl) rfl #[.string t127] rfl (by (try simp only [List.map_toArray, List.map_cons, List.map_nil]); first | done | rfl | (simp only [List.length_drop, List.length_take]; rfl)) ?_; (with_reducible refine (number_Hundredths.calls k t127 t131 t132 _ A6.out).mono ?_); rintro e w11 ⟨rfl, hb⟩; refine ⟨_, rfl, ?_⟩; have n0_ := Aside0.mk (below_step (by repeat (first | (with_reducible first | exact HB.out | apply below_alloc | apply pw_below_drewN | apply below_drew1) | exact HB.out)) hb); clear HB; have HB := n0_; clear n0_; (try clear hb); (try clear hb2); (try clear hk); (try clear hi)))
  (try simp only [Act.put, List.setIfInBounds_toArray, List.set_cons_zero, List.set_cons_succ])
  go_cut [67] (fun v67 wc => ∃ (kq : Nat) (x67_6 : Bool), v67 = .bool x67_6 ∧ Aside0 (groupcontrollaw2_NumberParts.j0 kq (Int.tmod (wrap64 (a0)) 10000) x67_6 = some r) ∧ Aside0 (kq ≤ k) ∧ Aside0 (Below w.heap.size w wc))
  case first =>
    have H := HC7.out
    clear HC7
    by_cases c12 : t126 = 0
    · rw [if_pos c12] at H
      have c12b0 : (t126 == 0) = true := beq_iff_eq.mpr c12
      have c12b1 : (t126 != 0) = false := bne_eq_false_iff_eq.mpr c12
      clear c12
      (first | rw [c12b0] | (simp only [i64_w, i32_w]; rw [c12b0]) | skip)
      by_cases c13 : t128 = 0
      · rw [if_pos c13] at H
        have c13b0 : (t128 == 0) = true := beq_iff_eq.mpr c13
        have c13b1 : (t128 != 0) = false := bne_eq_false_iff_eq.mpr c13
        clear c13
        by_cases c14 : t130 = 0
        · rw [if_pos c14] at H
          have c14b0 : (t130 == 0) = true := beq_iff_eq.mpr c14
          have c14b1 : (t130 != 0) = false := bne_eq_false_iff_eq.mpr c14
          clear c14
          by_cases c15 : t132 = 0
          · rw [if_pos c15] at H
            have c15b0 : (t132 == 0) = true := beq_iff_eq.mpr c15
            have c15b1 : (t132 != 0) = false := bne_eq_false_iff_eq.mpr c15
            clear c15
            have H' := Aside0.mk H
            clear H
            go_wp2
            go_meet
            case rel => exact ⟨_, (((decide ((Int.tmod (wrap64 (a0)) 10000) < (Int.tmod (wrap64 (a1)) 10000))) != (decide (t129 < t131)))), (by first | rfl | (simp; done) | (simp [*]; done)), H', ⟨by first | omega | exact Nat.le_refl _⟩, ⟨by repeat (first | (with_reducible first | exact HB.out | apply below_alloc | apply pw_below_drewN | apply below_drew1) | exact HB.out)⟩⟩
          · rw [if_neg c15] at H
            have c15b0 : (t132 == 0) = false := beq_eq_false_iff_ne.mpr c15
            have c15b1 : (t132 != 0) = true := bne_iff_ne.mpr c15
            have H' := Aside0.mk H
            clear H
            go_wp2
            go_meet
            case rel => exact ⟨_, (true), (by first | rfl | (simp; done) | (simp [*]; done)), H', ⟨by first | omega | exact Nat.le_refl _⟩, ⟨by repeat (first | (with_reducible first | exact HB.out | apply below_alloc | apply pw_below_drewN | apply below_drew1) | exact HB.out)⟩⟩
        · rw [if_neg c14] at H
          have c14b0 : (t130 == 0) = false := beq_eq_false_iff_ne.mpr c14
          have c14b1 : (t130 != 0) = true := bne_iff_ne.mpr c14
          have H' := Aside0.mk H
          clear H
          go_wp2
          go_meet
          case rel => exact ⟨_, (true), (by first | rfl | (simp; done) | (simp [*]; done)), H', ⟨by first | omega | exact Nat.le_refl _⟩, ⟨by repeat (first | (with_reducible first | exact HB.out | apply below_alloc | apply pw_below_drewN | apply below_drew1) | exact HB.out)⟩⟩
      · rw [if_neg c13] at H
        have c13b0 : (t128 == 0) = false := beq_eq_false_iff_ne.mpr c13
        have c13b1 : (t128 != 0) = true := bne_iff_ne.mpr c13
        have H' := Aside0.mk H
        clear H
        go_wp2
        go_meet
        case rel => exact ⟨_, (true), (by first | rfl | (simp; done) | (simp [*]; done)), H', ⟨by first | omega | exact Nat.le_refl _⟩, ⟨by repeat (first | (with_reducible first | exact HB.out | apply below_alloc | apply pw_below_drewN | apply below_drew1) | exact HB.out)⟩⟩
    · rw [if_neg c12] at H
      have c12b0 : (t126 == 0) = false := beq_eq_false_iff_ne.mpr c12
      have c12b1 : (t126 != 0) = true := bne_iff_ne.mpr c12
      (first | rw [c12b0] | (simp only [i64_w, i32_w]; rw [c12b0]) | skip)
      have H' := Aside0.mk H
      clear H
      go_wp2
      go_meet
      case rel => exact ⟨_, (true), (by first | rfl | (simp; done) | (simp [*]; done)), H', ⟨by first | omega | exact Nat.le_refl _⟩, ⟨by repeat (first | (with_reducible first | exact HB.out | apply below_alloc | apply pw_below_drewN | apply below_drew1) | exact HB.out)⟩⟩
  case rest =>
    clear HC7
    try clear c1
    try clear p2
    try clear c3
    try clear c6
    try clear p6
    try clear c7
    try clear c12
    try clear c12b0
    try clear c12b1
    try clear c13
    try clear c13b0
    try clear c13b1
    try clear c14
    try clear c14b0
    try clear c14b1
    try clear c15
    try clear c15b0
    try clear c15b1
    obtain ⟨kq, x67_6, rfl, HA, HJ6, HB⟩ := hcut
    cases kq with
    | zero => exact absurd HA.out (by simp [groupcontrollaw2_NumberParts.j0])
    | succ kj6 =>
      have H := HA.out
      clear HA
      simp only [groupcontrollaw2_NumberParts.j0] at H
      by_cases c16 : x67_6 = true
      · subst c16
        have H1 : (some false) = some r := by rw [if_pos rfl] at H; exact H
        clear H
        have H := H1
        clear H1
        obtain rfl := Option.some.inj H
        go_wp2
        go_ret
        exact ⟨by first | rfl | (simp [errW_none, errW_some] <;> rfl) | (simp [*, errW_none, errW_some] <;> rfl), by repeat (first | (with_reducible first | exact HB.out | apply below_alloc | apply pw_below_drewN | apply below_drew1) | exact HB.out)⟩
      · replace c16 := Bool.eq_false_iff.mpr c16
        subst c16
        have H1 : ((groupcontrolref2_Decimal.f kj6 (wrap64 (Int.tdiv (Int.tmod (wrap64 (a0)) 10000) 100))).bind fun t133 => ((number_Hundredths.f kj6 t133).bind fun bt134 => ((groupcontrolref2_Decimal.f kj6 (wrap64 (Int.tdiv (Int.tmod (wrap64 (a0)) 10000) 100))).bind fun t136 => (if t136.size + 1 ≤ 9223372036854775807 then ((groupcontrolref2_Decimal.f kj6 (Int.tmod (wrap64 (Int.tdiv (Int.tmod (wrap64 (a0)) 10000) 10)) 10)).bind fun t137 => (if (t136 ++ (⟨#[46]⟩ : ByteArray)).size + t137.size ≤ 9223372036854775807 then ((number_Hundredths.f kj6 ((t136 ++ (⟨#[46]⟩ : ByteArray)) ++ t137)).bind fun bt138 => (if bt134.2 = 0 then (if bt138.2 = 0 then (if bt134.1 = (wrap64 ((wrap64 (Int.tdiv (Int.tmod (wrap64 (a0)) 10000) 100)) * 100)) then (if bt138.1 = (wrap64 ((wrap64 (Int.tdiv (Int.tmod (wrap64 (a0)) 10000) 10)) * 10)) then ((groupcontrollaw2_sane.f kj6).bind fun t140 => (some t140)) else (some false)) else (some false)) else (some false)) else (some false))) else (none))) else (none))))) = some r := by rw [if_neg (show ¬ (false = true) by decide)] at H; exact H
        clear H
        have H := H1
        clear H1
        replace H := Option.bind_eq_some_iff.mp H
        obtain ⟨t133, A170, H⟩ := H
        replace H : ((number_Hundredths.f kj6 t133).bind fun bt134 => ((groupcontrolref2_Decimal.f kj6 (wrap64 (Int.tdiv (Int.tmod (wrap64 (a0)) 10000) 100))).bind fun t136 => (if t136.size + 1 ≤ 9223372036854775807 then ((groupcontrolref2_Decimal.f kj6 (Int.tmod (wrap64 (Int.tdiv (Int.tmod (wrap64 (a0)) 10000) 10)) 10)).bind fun t137 => (if (t136 ++ (⟨#[46]⟩ : ByteArray)).size + t137.size ≤ 9223372036854775807 then ((number_Hundredths.f kj6 ((t136 ++ (⟨#[46]⟩ : ByteArray)) ++ t137)).bind fun bt138 => (if bt134.2 = 0 then (if bt138.2 = 0 then (if bt134.1 = (wrap64 ((wrap64 (Int.tdiv (Int.tmod (wrap64 (a0)) 10000) 100)) * 100)) then (if bt138.1 = (wrap64 ((wrap64 (Int.tdiv (Int.tmod (wrap64 (a0)) 10000) 10)) * 10)) then ((groupcontrollaw2_sane.f kj6).bind fun t140 => (some t140)) else (some false)) else (some false)) else (some false)) else (some false))) else (none))) else (none)))) = some r := H
        have A17 := Aside0.mk A170
        clear A170
        replace H := Option.bind_eq_some_iff.mp H
        obtain ⟨⟨t134, t135⟩, A180, H⟩ := H
        replace H : ((groupcontrolref2_Decimal.f kj6 (wrap64 (Int.tdiv (Int.tmod (wrap64 (a0)) 10000) 100))).bind fun t136 => (if t136.size + 1 ≤ 9223372036854775807 then ((groupcontrolref2_Decimal.f kj6 (Int.tmod (wrap64 (Int.tdiv (Int.tmod (wrap64 (a0)) 10000) 10)) 10)).bind fun t137 => (if (t136 ++ (⟨#[46]⟩ : ByteArray)).size + t137.size ≤ 9223372036854775807 then ((number_Hundredths.f kj6 ((t136 ++ (⟨#[46]⟩ : ByteArray)) ++ t137)).bind fun bt138 => (if t135 = 0 then (if bt138.2 = 0 then (if t134 = (wrap64 ((wrap64 (Int.tdiv (Int.tmod (wrap64 (a0)) 10000) 100)) * 100)) then (if bt138.1 = (wrap64 ((wrap64 (Int.tdiv (Int.tmod (wrap64 (a0)) 10000) 10)) * 10)) then ((groupcontrollaw2_sane.f kj6).bind fun t140 => (some t140)) else (some false)) else (some false)) else (some false)) else (some false))) else (none))) else (none))) = some r := H
        have A18 := Aside0.mk A180
        clear A180
        replace H := Option.bind_eq_some_iff.mp H
        obtain ⟨t136, A190, H⟩ := H
        replace H : (if t136.size + 1 ≤ 9223372036854775807 then ((groupcontrolref2_Decimal.f kj6 (Int.tmod (wrap64 (Int.tdiv (Int.tmod (wrap64 (a0)) 10000) 10)) 10)).bind fun t137 => (if (t136 ++ (⟨#[46]⟩ : ByteArray)).size + t137.size ≤ 9223372036854775807 then ((number_Hundredths.f kj6 ((t136 ++ (⟨#[46]⟩ : ByteArray)) ++ t137)).bind fun bt138 => (if t135 = 0 then (if bt138.2 = 0 then (if t134 = (wrap64 ((wrap64 (Int.tdiv (Int.tmod (wrap64 (a0)) 10000) 100)) * 100)) then (if bt138.1 = (wrap64 ((wrap64 (Int.tdiv (Int.tmod (wrap64 (a0)) 10000) 10)) * 10)) then ((groupcontrollaw2_sane.f kj6).bind fun t140 => (some t140)) else (some false)) else (some false)) else (some false)) else (some false))) else (none))) else (none)) = some r := H
        have A19 := Aside0.mk A190
        clear A190
        by_cases c20 : t136.size + 1 ≤ 9223372036854775807
        · rw [if_pos c20] at H
          have c20b0 := eq_true c20
          have c20b1 : decide (t136.size + 1 ≤ 9223372036854775807) = true := decide_eq_true c20
          try have c20b2 : (9223372036854775807 < t136.size + 1) = False := eq_false (Nat.not_lt.2 c20)
          replace H := Option.bind_eq_some_iff.mp H
          obtain ⟨t137, A210, H⟩ := H
          replace H : (if (t136 ++ (⟨#[46]⟩ : ByteArray)).size + t137.size ≤ 9223372036854775807 then ((number_Hundredths.f kj6 ((t136 ++ (⟨#[46]⟩ : ByteArray)) ++ t137)).bind fun bt138 => (if t135 = 0 then (if bt138.2 = 0 then (if t134 = (wrap64 ((wrap64 (Int.tdiv (Int.tmod (wrap64 (a0)) 10000) 100)) * 100)) then (if bt138.1 = (wrap64 ((wrap64 (Int.tdiv (Int.tmod (wrap64 (a0)) 10000) 10)) * 10)) then ((groupcontrollaw2_sane.f kj6).bind fun t140 => (some t140)) else (some false)) else (some false)) else (some false)) else (some false))) else (none)) = some r := H
          have A21 := Aside0.mk A210
          clear A210
          by_cases c22 : (t136 ++ (⟨#[46]⟩ : ByteArray)).size + t137.size ≤ 9223372036854775807
          · rw [if_pos c22] at H
            have c22b0 := eq_true c22
            (try have c22bw : (9223372036854775807 < t136.size + 1 + t137.size) = False := eq_false (by have hz_ := c22; simp [ByteArray.size_append, ByteArray.size_extract, show (⟨#[46]⟩ : ByteArray).size = 1 from rfl] at hz_; omega))
            (try have c22bz : (t136.size + 1 + t137.size ≤ 9223372036854775807) = True := eq_true (by first | simpa using c22 | (have hz_ := c22; simp [ByteArray.size_append, ByteArray.size_extract, show (⟨#[46]⟩ : ByteArray).size = 1 from rfl] at hz_ ⊢; omega) | (have hz_ := c22; simp [ByteArray.size_append, ByteArray.size_extract, show (⟨#[46]⟩ : ByteArray).size = 1 from rfl] at hz_; omega)))
            have c22b1 : decide ((t136 ++ (⟨#[46]⟩ : ByteArray)).size + t137.size ≤ 9223372036854775807) = true := decide_eq_true c22
            try have c22b2 : (9223372036854775807 < (t136 ++ (⟨#[46]⟩ : ByteArray)).size + t137.size) = False := eq_false (Nat.not_lt.2 c22)
            replace H := Option.bind_eq_some_iff.mp H
            obtain ⟨⟨t138, t139⟩, A230, H⟩ := H
            replace H : (if t135 = 0 then (if t139 = 0 then (if t134 = (wrap64 ((wrap64 (Int.tdiv (Int.tmod (wrap64 (a0)) 10000) 100)) * 100)) then (if t138 = (wrap64 ((wrap64 (Int.tdiv (Int.tmod (wrap64 (a0)) 10000) 10)) * 10)) then ((groupcontrollaw2_sane.f kj6).bind fun t140 => (some t140)) else (some false)) else (some false)) else (some false)) else (some false)) = some r := H
            have A23 := Aside0.mk A230
            clear A230
            by_cases c24 : t135 = 0
            · rw [if_pos c24] at H
              have c24b0 : (t135 == 0) = true := beq_iff_eq.mpr c24
              have c24b1 : (t135 != 0) = false := bne_eq_false_iff_eq.mpr c24
              clear c24
              by_cases c25 : t139 = 0
              · rw [if_pos c25] at H
                have c25b0 : (t139 == 0) = true := beq_iff_eq.mpr c25
                have c25b1 : (t139 != 0) = false := bne_eq_false_iff_eq.mpr c25
                clear c25
                by_cases c26 : t134 = (wrap64 ((wrap64 (Int.tdiv (Int.tmod (wrap64 (a0)) 10000) 100)) * 100))
                · rw [if_pos c26] at H
                  have c26b0 : (t134 == (wrap64 ((wrap64 (Int.tdiv (Int.tmod (wrap64 (a0)) 10000) 100)) * 100))) = true := beq_iff_eq.mpr c26
                  have c26b1 : (t134 != (wrap64 ((wrap64 (Int.tdiv (Int.tmod (wrap64 (a0)) 10000) 100)) * 100))) = false := bne_eq_false_iff_eq.mpr c26
                  clear c26
                  by_cases c27 : t138 = (wrap64 ((wrap64 (Int.tdiv (Int.tmod (wrap64 (a0)) 10000) 10)) * 10))
                  · rw [if_pos c27] at H
                    have c27b0 : (t138 == (wrap64 ((wrap64 (Int.tdiv (Int.tmod (wrap64 (a0)) 10000) 10)) * 10))) = true := beq_iff_eq.mpr c27
                    have c27b1 : (t138 != (wrap64 ((wrap64 (Int.tdiv (Int.tmod (wrap64 (a0)) 10000) 10)) * 10))) = false := bne_eq_false_iff_eq.mpr c27
                    clear c27
                    replace H := Option.bind_eq_some_iff.mp H
                    obtain ⟨t140, A280, H⟩ := H
                    replace H : (some t140) = some r := H
                    have A28 := Aside0.mk A280
                    clear A280
                    obtain rfl := Option.some.inj H
                    go_wp2_with (first | ((with_reducible refine gate_callee (f := 8) rfl ?_); refine goesL_ (some 71) rfl rfl Tryd.func8 (by kernel_rfl) rfl #[.int .i64 (wrap64 (Int.tdiv (Int.tmod (wrap64 (a0)) 10000) 100))] rfl (by (try simp only [List.map_toArray, List.map_cons, List.map_nil]); first | done | rfl | (simp only [List.length_drop, List.length_take]; rfl)) ?_; (with_reducible refine (groupcontrolref2_Decimal.calls kj6 (wrap64 (Int.tdiv (Int.tmod (wrap64 (a0)) 10000) 100)) t133 _ A17.out).mono ?_); rintro e w29 ⟨rfl, hb⟩; refine ⟨_, rfl, ?_⟩; have n0_ := Aside0.mk (below_step (by repeat (first | (with_reducible first | exact HB.out | apply below_alloc | apply pw_below_drewN | apply below_drew1) | exact HB.out)) hb); clear HB; have HB := n0_; clear n0_; (try clear hb); (try clear hb2); (try clear hk); (try clear hi)) | ((with_reducible refine gate_callee (f := 7) rfl ?_); refine goesL_ (some 72) rfl rfl Tryd.func7 (by kernel_rfl) rfl #[.string t133] rfl (by (try simp only [List.map_toArray, List.map_cons, List.map_nil]); first | done | rfl | (simp only [List.length_drop, List.length_take]; rfl)) ?_; (with_reducible refine (number_Hundredths.calls kj6 t133 t134 t135 _ A18.out).mono ?_); rintro e w30 ⟨rfl, hb⟩; refine ⟨_, rfl, ?_⟩; have n0_ := Aside0.mk (below_step (by repeat (first | (with_reducible first | exact HB.out | apply below_alloc | apply pw_below_drewN | apply below_drew1) | exact HB.out)) hb); clear HB; have HB := n0_; clear n0_; (try clear hb); (try clear hb2); (try clear hk); (try clear hi)) | ((with_reducible refine gate_callee (f := 8) rfl ?_); refine goesL_ (some 78) rfl rfl Tryd.func8 (by kernel_rfl) rfl #[.int .i64 (wrap64 (Int.tdiv (Int.tmod (wrap64 (a0)) 10000) 100))] rfl (by (try simp only [List.map_toArray, List.map_cons, List.map_nil]); first | done | rfl | (simp only [List.length_drop, List.length_take]; rfl)) ?_; (with_reducible refine (groupcontrolref2_Decimal.calls kj6 (wrap64 (Int.tdiv (Int.tmod (wrap64 (a0)) 10000) 100)) t136 _ A19.out).mono ?_); rintro e w31 ⟨rfl, hb⟩; refine ⟨_, rfl, ?_⟩; have n0_ := Aside0.mk (below_step (by repeat (first | (with_reducible first | exact HB.out | apply below_alloc | apply pw_below_drewN | apply below_drew1) | exact HB.out)) hb); clear HB; have HB := n0_; clear n0_; (try clear hb); (try clear hb2); (try clear hk); (try clear hi)) | ((with_reducible refine gate_callee (f := 8) rfl ?_); refine goesL_ (some 83) rfl rfl Tryd.func8 (by kernel_rfl) rfl #[.int .i64 (Int.tmod (wrap64 (Int.tdiv (Int.tmod (wrap64 (a0)) 10000) 10)) 10)] rfl (by (try simp only [List.map_toArray, List.map_cons, List.map_nil]); first | done | rfl | (simp only [List.length_drop, List.length_take]; rfl)) ?_; (with_reducible refine (groupcontrolref2_Decimal.calls kj6 (Int.tmod (wrap64 (Int.tdiv (Int.tmod (wrap64 (a0)) 10000) 10)) 10) t137 _ A21.out).mono ?_); rintro e w32 ⟨rfl, hb⟩; refine ⟨_, rfl, ?_⟩; have n0_ := Aside0.mk (below_step (by repeat (first | (with_reducible first | exact HB.out | apply below_alloc | apply pw_below_drewN | apply below_drew1) | exact HB.out)) hb); clear HB; have HB := n0_; clear n0_; (try clear hb); (try clear hb2); (try clear hk); (try clear hi)) | ((with_reducible refine gate_callee (f := 7) rfl ?_); refine goesL_ (some 85) rfl rfl Tryd.func7 (by kernel_rfl) rfl #[.string ((t136 ++ (⟨#[46]⟩ : ByteArray)) ++ t137)] rfl (by (try simp only [List.map_toArray, List.map_cons, List.map_nil]); first | done | rfl | (simp only [List.length_drop, List.length_take]; rfl)) ?_; (with_reducible refine (number_Hundredths.calls kj6 ((t136 ++ (⟨#[46]⟩ : ByteArray)) ++ t137) t138 t139 _ A23.out).mono ?_); rintro e w33 ⟨rfl, hb⟩; refine ⟨_, rfl, ?_⟩; have n0_ := Aside0.mk (below_step (by repeat (first | (with_reducible first | exact HB.out | apply below_alloc | apply pw_below_drewN | apply below_drew1) | exact HB.out)) hb); clear HB; have HB := n0_; clear n0_; (try clear hb); (try clear hb2); (try clear hk); (try clear hi)) | (go_at_call 9; (with_reducible refine (groupcontrollaw2_sane.calls kj6  t140 _ A28.out).mono ?_); rintro e w34 ⟨rfl, hb⟩; have n0_ := Aside0.mk (below_step (by repeat (first | (with_reducible first | exact HB.out | apply below_alloc | apply pw_below_drewN | apply below_drew1) | exact HB.out)) hb); clear HB; have HB := n0_; clear n0_; (try clear hb); (try clear hb2); (try clear hk); (try clear hi)))
                    go_ret
                    exact ⟨by first | rfl | (simp [errW_none, errW_some] <;> rfl) | (simp [*, errW_none, errW_some] <;> rfl), by repeat (first | (with_reducible first | exact HB.out | apply below_alloc | apply pw_below_drewN | apply below_drew1) | exact HB.out)⟩
                  · rw [if_neg c27] at H
                    have c27b0 : (t138 == (wrap64 ((wrap64 (Int.tdiv (Int.tmod (wrap64 (a0)) 10000) 10)) * 10))) = false := beq_eq_false_iff_ne.mpr c27
                    have c27b1 : (t138 != (wrap64 ((wrap64 (Int.tdiv (Int.tmod (wrap64 (a0)) 10000) 10)) * 10))) = true := bne_iff_ne.mpr c27
                    obtain rfl := Option.some.inj H
                    go_wp2_with (first | ((with_reducible refine gate_callee (f := 8) rfl ?_); refine goesL_ (some 71) rfl rfl Tryd.func8 (by kernel_rfl) rfl #[.int .i64 (wrap64 (Int.tdiv (Int.tmod (wrap64 (a0)) 10000) 100))] rfl (by (try simp only [List.map_toArray, List.map_cons, List.map_nil]); first | done | rfl | (simp only [List.length_drop, List.length_take]; rfl)) ?_; (with_reducible refine (groupcontrolref2_Decimal.calls kj6 (wrap64 (Int.tdiv (Int.tmod (wrap64 (a0)) 10000) 100)) t133 _ A17.out).mono ?_); rintro e w35 ⟨rfl, hb⟩; refine ⟨_, rfl, ?_⟩; have n0_ := Aside0.mk (below_step (by repeat (first | (with_reducible first | exact HB.out | apply below_alloc | apply pw_below_drewN | apply below_drew1) | exact HB.out)) hb); clear HB; have HB := n0_; clear n0_; (try clear hb); (try clear hb2); (try clear hk); (try clear hi)) | ((with_reducible refine gate_callee (f := 7) rfl ?_); refine goesL_ (some 72) rfl rfl Tryd.func7 (by kernel_rfl) rfl #[.string t133] rfl (by (try simp only [List.map_toArray, List.map_cons, List.map_nil]); first | done | rfl | (simp only [List.length_drop, List.length_take]; rfl)) ?_; (with_reducible refine (number_Hundredths.calls kj6 t133 t134 t135 _ A18.out).mono ?_); rintro e w36 ⟨rfl, hb⟩; refine ⟨_, rfl, ?_⟩; have n0_ := Aside0.mk (below_step (by repeat (first | (with_reducible first | exact HB.out | apply below_alloc | apply pw_below_drewN | apply below_drew1) | exact HB.out)) hb); clear HB; have HB := n0_; clear n0_; (try clear hb); (try clear hb2); (try clear hk); (try clear hi)) | ((with_reducible refine gate_callee (f := 8) rfl ?_); refine goesL_ (some 78) rfl rfl Tryd.func8 (by kernel_rfl) rfl #[.int .i64 (wrap64 (Int.tdiv (Int.tmod (wrap64 (a0)) 10000) 100))] rfl (by (try simp only [List.map_toArray, List.map_cons, List.map_nil]); first | done | rfl | (simp only [List.length_drop, List.length_take]; rfl)) ?_; (with_reducible refine (groupcontrolref2_Decimal.calls kj6 (wrap64 (Int.tdiv (Int.tmod (wrap64 (a0)) 10000) 100)) t136 _ A19.out).mono ?_); rintro e w37 ⟨rfl, hb⟩; refine ⟨_, rfl, ?_⟩; have n0_ := Aside0.mk (below_step (by repeat (first | (with_reducible first | exact HB.out | apply below_alloc | apply pw_below_drewN | apply below_drew1) | exact HB.out)) hb); clear HB; have HB := n0_; clear n0_; (try clear hb); (try clear hb2); (try clear hk); (try clear hi)) | ((with_reducible refine gate_callee (f := 8) rfl ?_); refine goesL_ (some 83) rfl rfl Tryd.func8 (by kernel_rfl) rfl #[.int .i64 (Int.tmod (wrap64 (Int.tdiv (Int.tmod (wrap64 (a0)) 10000) 10)) 10)] rfl (by (try simp only [List.map_toArray, List.map_cons, List.map_nil]); first | done | rfl | (simp only [List.length_drop, List.length_take]; rfl)) ?_; (with_reducible refine (groupcontrolref2_Decimal.calls kj6 (Int.tmod (wrap64 (Int.tdiv (Int.tmod (wrap64 (a0)) 10000) 10)) 10) t137 _ A21.out).mono ?_); rintro e w38 ⟨rfl, hb⟩; refine ⟨_, rfl, ?_⟩; have n0_ := Aside0.mk (below_step (by repeat (first | (with_reducible first | exact HB.out | apply below_alloc | apply pw_below_drewN | apply below_drew1) | exact HB.out)) hb); clear HB; have HB := n0_; clear n0_; (try clear hb); (try clear hb2); (try clear hk); (try clear hi)) | ((with_reducible refine gate_callee (f := 7) rfl ?_); refine goesL_ (some 85) rfl rfl Tryd.func7 (by kernel_rfl) rfl #[.string ((t136 ++ (⟨#[46]⟩ : ByteArray)) ++ t137)] rfl (by (try simp only [List.map_toArray, List.map_cons, List.map_nil]); first | done | rfl | (simp only [List.length_drop, List.length_take]; rfl)) ?_; (with_reducible refine (number_Hundredths.calls kj6 ((t136 ++ (⟨#[46]⟩ : ByteArray)) ++ t137) t138 t139 _ A23.out).mono ?_); rintro e w39 ⟨rfl, hb⟩; refine ⟨_, rfl, ?_⟩; have n0_ := Aside0.mk (below_step (by repeat (first | (with_reducible first | exact HB.out | apply below_alloc | apply pw_below_drewN | apply below_drew1) | exact HB.out)) hb); clear HB; have HB := n0_; clear n0_; (try clear hb); (try clear hb2); (try clear hk); (try clear hi)))
                    go_ret
                    exact ⟨by first | rfl | (simp [errW_none, errW_some] <;> rfl) | (simp [*, errW_none, errW_some] <;> rfl), by repeat (first | (with_reducible first | exact HB.out | apply below_alloc | apply pw_below_drewN | apply below_drew1) | exact HB.out)⟩
                · rw [if_neg c26] at H
                  have c26b0 : (t134 == (wrap64 ((wrap64 (Int.tdiv (Int.tmod (wrap64 (a0)) 10000) 100)) * 100))) = false := beq_eq_false_iff_ne.mpr c26
                  have c26b1 : (t134 != (wrap64 ((wrap64 (Int.tdiv (Int.tmod (wrap64 (a0)) 10000) 100)) * 100))) = true := bne_iff_ne.mpr c26
                  obtain rfl := Option.some.inj H
                  go_wp2_with (first | ((with_reducible refine gate_callee (f := 8) rfl ?_); refine goesL_ (some 71) rfl rfl Tryd.func8 (by kernel_rfl) rfl #[.int .i64 (wrap64 (Int.tdiv (Int.tmod (wrap64 (a0)) 10000) 100))] rfl (by (try simp only [List.map_toArray, List.map_cons, List.map_nil]); first | done | rfl | (simp only [List.length_drop, List.length_take]; rfl)) ?_; (with_reducible refine (groupcontrolref2_Decimal.calls kj6 (wrap64 (Int.tdiv (Int.tmod (wrap64 (a0)) 10000) 100)) t133 _ A17.out).mono ?_); rintro e w40 ⟨rfl, hb⟩; refine ⟨_, rfl, ?_⟩; have n0_ := Aside0.mk (below_step (by repeat (first | (with_reducible first | exact HB.out | apply below_alloc | apply pw_below_drewN | apply below_drew1) | exact HB.out)) hb); clear HB; have HB := n0_; clear n0_; (try clear hb); (try clear hb2); (try clear hk); (try clear hi)) | ((with_reducible refine gate_callee (f := 7) rfl ?_); refine goesL_ (some 72) rfl rfl Tryd.func7 (by kernel_rfl) rfl #[.string t133] rfl (by (try simp only [List.map_toArray, List.map_cons, List.map_nil]); first | done | rfl | (simp only [List.length_drop, List.length_take]; rfl)) ?_; (with_reducible refine (number_Hundredths.calls kj6 t133 t134 t135 _ A18.out).mono ?_); rintro e w41 ⟨rfl, hb⟩; refine ⟨_, rfl, ?_⟩; have n0_ := Aside0.mk (below_step (by repeat (first | (with_reducible first | exact HB.out | apply below_alloc | apply pw_below_drewN | apply below_drew1) | exact HB.out)) hb); clear HB; have HB := n0_; clear n0_; (try clear hb); (try clear hb2); (try clear hk); (try clear hi)) | ((with_reducible refine gate_callee (f := 8) rfl ?_); refine goesL_ (some 78) rfl rfl Tryd.func8 (by kernel_rfl) rfl #[.int .i64 (wrap64 (Int.tdiv (Int.tmod (wrap64 (a0)) 10000) 100))] rfl (by (try simp only [List.map_toArray, List.map_cons, List.map_nil]); first | done | rfl | (simp only [List.length_drop, List.length_take]; rfl)) ?_; (with_reducible refine (groupcontrolref2_Decimal.calls kj6 (wrap64 (Int.tdiv (Int.tmod (wrap64 (a0)) 10000) 100)) t136 _ A19.out).mono ?_); rintro e w42 ⟨rfl, hb⟩; refine ⟨_, rfl, ?_⟩; have n0_ := Aside0.mk (below_step (by repeat (first | (with_reducible first | exact HB.out | apply below_alloc | apply pw_below_drewN | apply below_drew1) | exact HB.out)) hb); clear HB; have HB := n0_; clear n0_; (try clear hb); (try clear hb2); (try clear hk); (try clear hi)) | ((with_reducible refine gate_callee (f := 8) rfl ?_); refine goesL_ (some 83) rfl rfl Tryd.func8 (by kernel_rfl) rfl #[.int .i64 (Int.tmod (wrap64 (Int.tdiv (Int.tmod (wrap64 (a0)) 10000) 10)) 10)] rfl (by (try simp only [List.map_toArray, List.map_cons, List.map_nil]); first | done | rfl | (simp only [List.length_drop, List.length_take]; rfl)) ?_; (with_reducible refine (groupcontrolref2_Decimal.calls kj6 (Int.tmod (wrap64 (Int.tdiv (Int.tmod (wrap64 (a0)) 10000) 10)) 10) t137 _ A21.out).mono ?_); rintro e w43 ⟨rfl, hb⟩; refine ⟨_, rfl, ?_⟩; have n0_ := Aside0.mk (below_step (by repeat (first | (with_reducible first | exact HB.out | apply below_alloc | apply pw_below_drewN | apply below_drew1) | exact HB.out)) hb); clear HB; have HB := n0_; clear n0_; (try clear hb); (try clear hb2); (try clear hk); (try clear hi)) | ((with_reducible refine gate_callee (f := 7) rfl ?_); refine goesL_ (some 85) rfl rfl Tryd.func7 (by kernel_rfl) rfl #[.string ((t136 ++ (⟨#[46]⟩ : ByteArray)) ++ t137)] rfl (by (try simp only [List.map_toArray, List.map_cons, List.map_nil]); first | done | rfl | (simp only [List.length_drop, List.length_take]; rfl)) ?_; (with_reducible refine (number_Hundredths.calls kj6 ((t136 ++ (⟨#[46]⟩ : ByteArray)) ++ t137) t138 t139 _ A23.out).mono ?_); rintro e w44 ⟨rfl, hb⟩; refine ⟨_, rfl, ?_⟩; have n0_ := Aside0.mk (below_step (by repeat (first | (with_reducible first | exact HB.out | apply below_alloc | apply pw_below_drewN | apply below_drew1) | exact HB.out)) hb); clear HB; have HB := n0_; clear n0_; (try clear hb); (try clear hb2); (try clear hk); (try clear hi)))
                  go_ret
                  exact ⟨by first | rfl | (simp [errW_none, errW_some] <;> rfl) | (simp [*, errW_none, errW_some] <;> rfl), by repeat (first | (with_reducible first | exact HB.out | apply below_alloc | apply pw_below_drewN | apply below_drew1) | exact HB.out)⟩
              · rw [if_neg c25] at H
                have c25b0 : (t139 == 0) = false := beq_eq_false_iff_ne.mpr c25
                have c25b1 : (t139 != 0) = true := bne_iff_ne.mpr c25
                obtain rfl := Option.some.inj H
                go_wp2_with (first | ((with_reducible refine gate_callee (f := 8) rfl ?_); refine goesL_ (some 71) rfl rfl Tryd.func8 (by kernel_rfl) rfl #[.int .i64 (wrap64 (Int.tdiv (Int.tmod (wrap64 (a0)) 10000) 100))] rfl (by (try simp only [List.map_toArray, List.map_cons, List.map_nil]); first | done | rfl | (simp only [List.length_drop, List.length_take]; rfl)) ?_; (with_reducible refine (groupcontrolref2_Decimal.calls kj6 (wrap64 (Int.tdiv (Int.tmod (wrap64 (a0)) 10000) 100)) t133 _ A17.out).mono ?_); rintro e w45 ⟨rfl, hb⟩; refine ⟨_, rfl, ?_⟩; have n0_ := Aside0.mk (below_step (by repeat (first | (with_reducible first | exact HB.out | apply below_alloc | apply pw_below_drewN | apply below_drew1) | exact HB.out)) hb); clear HB; have HB := n0_; clear n0_; (try clear hb); (try clear hb2); (try clear hk); (try clear hi)) | ((with_reducible refine gate_callee (f := 7) rfl ?_); refine goesL_ (some 72) rfl rfl Tryd.func7 (by kernel_rfl) rfl #[.string t133] rfl (by (try simp only [List.map_toArray, List.map_cons, List.map_nil]); first | done | rfl | (simp only [List.length_drop, List.length_take]; rfl)) ?_; (with_reducible refine (number_Hundredths.calls kj6 t133 t134 t135 _ A18.out).mono ?_); rintro e w46 ⟨rfl, hb⟩; refine ⟨_, rfl, ?_⟩; have n0_ := Aside0.mk (below_step (by repeat (first | (with_reducible first | exact HB.out | apply below_alloc | apply pw_below_drewN | apply below_drew1) | exact HB.out)) hb); clear HB; have HB := n0_; clear n0_; (try clear hb); (try clear hb2); (try clear hk); (try clear hi)) | ((with_reducible refine gate_callee (f := 8) rfl ?_); refine goesL_ (some 78) rfl rfl Tryd.func8 (by kernel_rfl) rfl #[.int .i64 (wrap64 (Int.tdiv (Int.tmod (wrap64 (a0)) 10000) 100))] rfl (by (try simp only [List.map_toArray, List.map_cons, List.map_nil]); first | done | rfl | (simp only [List.length_drop, List.length_take]; rfl)) ?_; (with_reducible refine (groupcontrolref2_Decimal.calls kj6 (wrap64 (Int.tdiv (Int.tmod (wrap64 (a0)) 10000) 100)) t136 _ A19.out).mono ?_); rintro e w47 ⟨rfl, hb⟩; refine ⟨_, rfl, ?_⟩; have n0_ := Aside0.mk (below_step (by repeat (first | (with_reducible first | exact HB.out | apply below_alloc | apply pw_below_drewN | apply below_drew1) | exact HB.out)) hb); clear HB; have HB := n0_; clear n0_; (try clear hb); (try clear hb2); (try clear hk); (try clear hi)) | ((with_reducible refine gate_callee (f := 8) rfl ?_); refine goesL_ (some 83) rfl rfl Tryd.func8 (by kernel_rfl) rfl #[.int .i64 (Int.tmod (wrap64 (Int.tdiv (Int.tmod (wrap64 (a0)) 10000) 10)) 10)] rfl (by (try simp only [List.map_toArray, List.map_cons, List.map_nil]); first | done | rfl | (simp only [List.length_drop, List.length_take]; rfl)) ?_; (with_reducible refine (groupcontrolref2_Decimal.calls kj6 (Int.tmod (wrap64 (Int.tdiv (Int.tmod (wrap64 (a0)) 10000) 10)) 10) t137 _ A21.out).mono ?_); rintro e w48 ⟨rfl, hb⟩; refine ⟨_, rfl, ?_⟩; have n0_ := Aside0.mk (below_step (by repeat (first | (with_reducible first | exact HB.out | apply below_alloc | apply pw_below_drewN | apply below_drew1) | exact HB.out)) hb); clear HB; have HB := n0_; clear n0_; (try clear hb); (try clear hb2); (try clear hk); (try clear hi)) | ((with_reducible refine gate_callee (f := 7) rfl ?_); refine goesL_ (some 85) rfl rfl Tryd.func7 (by kernel_rfl) rfl #[.string ((t136 ++ (⟨#[46]⟩ : ByteArray)) ++ t137)] rfl (by (try simp only [List.map_toArray, List.map_cons, List.map_nil]); first | done | rfl | (simp only [List.length_drop, List.length_take]; rfl)) ?_; (with_reducible refine (number_Hundredths.calls kj6 ((t136 ++ (⟨#[46]⟩ : ByteArray)) ++ t137) t138 t139 _ A23.out).mono ?_); rintro e w49 ⟨rfl, hb⟩; refine ⟨_, rfl, ?_⟩; have n0_ := Aside0.mk (below_step (by repeat (first | (with_reducible first | exact HB.out | apply below_alloc | apply pw_below_drewN | apply below_drew1) | exact HB.out)) hb); clear HB; have HB := n0_; clear n0_; (try clear hb); (try clear hb2); (try clear hk); (try clear hi)))
                go_ret
                exact ⟨by first | rfl | (simp [errW_none, errW_some] <;> rfl) | (simp [*, errW_none, errW_some] <;> rfl), by repeat (first | (with_reducible first | exact HB.out | apply below_alloc | apply pw_below_drewN | apply below_drew1) | exact HB.out)⟩
            · rw [if_neg c24] at H
              have c24b0 : (t135 == 0) = false := beq_eq_false_iff_ne.mpr c24
              have c24b1 : (t135 != 0) = true := bne_iff_ne.mpr c24
              obtain rfl := Option.some.inj H
              go_wp2_with (first | ((with_reducible refine gate_callee (f := 8) rfl ?_); refine goesL_ (some 71) rfl rfl Tryd.func8 (by kernel_rfl) rfl #[.int .i64 (wrap64 (Int.tdiv (Int.tmod (wrap64 (a0)) 10000) 100))] rfl (by (try simp only [List.map_toArray, List.map_cons, List.map_nil]); first | done | rfl | (simp only [List.length_drop, List.length_take]; rfl)) ?_; (with_reducible refine (groupcontrolref2_Decimal.calls kj6 (wrap64 (Int.tdiv (Int.tmod (wrap64 (a0)) 10000) 100)) t133 _ A17.out).mono ?_); rintro e w50 ⟨rfl, hb⟩; refine ⟨_, rfl, ?_⟩; have n0_ := Aside0.mk (below_step (by repeat (first | (with_reducible first | exact HB.out | apply below_alloc | apply pw_below_drewN | apply below_drew1) | exact HB.out)) hb); clear HB; have HB := n0_; clear n0_; (try clear hb); (try clear hb2); (try clear hk); (try clear hi)) | ((with_reducible refine gate_callee (f := 7) rfl ?_); refine goesL_ (some 72) rfl rfl Tryd.func7 (by kernel_rfl) rfl #[.string t133] rfl (by (try simp only [List.map_toArray, List.map_cons, List.map_nil]); first | done | rfl | (simp only [List.length_drop, List.length_take]; rfl)) ?_; (with_reducible refine (number_Hundredths.calls kj6 t133 t134 t135 _ A18.out).mono ?_); rintro e w51 ⟨rfl, hb⟩; refine ⟨_, rfl, ?_⟩; have n0_ := Aside0.mk (below_step (by repeat (first | (with_reducible first | exact HB.out | apply below_alloc | apply pw_below_drewN | apply below_drew1) | exact HB.out)) hb); clear HB; have HB := n0_; clear n0_; (try clear hb); (try clear hb2); (try clear hk); (try clear hi)) | ((with_reducible refine gate_callee (f := 8) rfl ?_); refine goesL_ (some 78) rfl rfl Tryd.func8 (by kernel_rfl) rfl #[.int .i64 (wrap64 (Int.tdiv (Int.tmod (wrap64 (a0)) 10000) 100))] rfl (by (try simp only [List.map_toArray, List.map_cons, List.map_nil]); first | done | rfl | (simp only [List.length_drop, List.length_take]; rfl)) ?_; (with_reducible refine (groupcontrolref2_Decimal.calls kj6 (wrap64 (Int.tdiv (Int.tmod (wrap64 (a0)) 10000) 100)) t136 _ A19.out).mono ?_); rintro e w52 ⟨rfl, hb⟩; refine ⟨_, rfl, ?_⟩; have n0_ := Aside0.mk (below_step (by repeat (first | (with_reducible first | exact HB.out | apply below_alloc | apply pw_below_drewN | apply below_drew1) | exact HB.out)) hb); clear HB; have HB := n0_; clear n0_; (try clear hb); (try clear hb2); (try clear hk); (try clear hi)) | ((with_reducible refine gate_callee (f := 8) rfl ?_); refine goesL_ (some 83) rfl rfl Tryd.func8 (by kernel_rfl) rfl #[.int .i64 (Int.tmod (wrap64 (Int.tdiv (Int.tmod (wrap64 (a0)) 10000) 10)) 10)] rfl (by (try simp only [List.map_toArray, List.map_cons, List.map_nil]); first | done | rfl | (simp only [List.length_drop, List.length_take]; rfl)) ?_; (with_reducible refine (groupcontrolref2_Decimal.calls kj6 (Int.tmod (wrap64 (Int.tdiv (Int.tmod (wrap64 (a0)) 10000) 10)) 10) t137 _ A21.out).mono ?_); rintro e w53 ⟨rfl, hb⟩; refine ⟨_, rfl, ?_⟩; have n0_ := Aside0.mk (below_step (by repeat (first | (with_reducible first | exact HB.out | apply below_alloc | apply pw_below_drewN | apply below_drew1) | exact HB.out)) hb); clear HB; have HB := n0_; clear n0_; (try clear hb); (try clear hb2); (try clear hk); (try clear hi)) | ((with_reducible refine gate_callee (f := 7) rfl ?_); refine goesL_ (some 85) rfl rfl Tryd.func7 (by kernel_rfl) rfl #[.string ((t136 ++ (⟨#[46]⟩ : ByteArray)) ++ t137)] rfl (by (try simp only [List.map_toArray, List.map_cons, List.map_nil]); first | done | rfl | (simp only [List.length_drop, List.length_take]; rfl)) ?_; (with_reducible refine (number_Hundredths.calls kj6 ((t136 ++ (⟨#[46]⟩ : ByteArray)) ++ t137) t138 t139 _ A23.out).mono ?_); rintro e w54 ⟨rfl, hb⟩; refine ⟨_, rfl, ?_⟩; have n0_ := Aside0.mk (below_step (by repeat (first | (with_reducible first | exact HB.out | apply below_alloc | apply pw_below_drewN | apply below_drew1) | exact HB.out)) hb); clear HB; have HB := n0_; clear n0_; (try clear hb); (try clear hb2); (try clear hk); (try clear hi)))
              go_ret
              exact ⟨by first | rfl | (simp [errW_none, errW_some] <;> rfl) | (simp [*, errW_none, errW_some] <;> rfl), by repeat (first | (with_reducible first | exact HB.out | apply below_alloc | apply pw_below_drewN | apply below_drew1) | exact HB.out)⟩
          · rw [if_neg c22] at H
            exact absurd H (by simp)
        · rw [if_neg c20] at H
          exact absurd H (by simp)

/-- THE ONE PURE STATEMENT of groupcontrollaw2_NumberParts: yours. -/
def groupcontrollaw2_NumberParts.Pure : Prop := ∀ (a0 : Int) (a1 : Int), (Lit.int .u16 a0).wf = true → (Lit.int .u16 a1).wf = true → ∃ k, groupcontrollaw2_NumberParts.f k a0 a1 = some true
theorem groupcontrollaw2_NumberParts.walk (P : groupcontrollaw2_NumberParts.Pure) (a0 : Int) (a1 : Int) (w : World) (hLaid : LaidW w) (w0 : (Lit.int .u16 a0).wf = true) (w1 : (Lit.int .u16 a1).wf = true) :
    Calls Tryd.prog 3 #[.int .u16 a0, .int .u16 a1] w fun e w' => e = .returned (.bool true) ∧ Below w.heap.size w w' := by
  have HLAID := Aside0.mk hLaid
  clear hLaid
  obtain ⟨k, h⟩ := P a0 a1 w0 w1
  refine (groupcontrollaw2_NumberParts.calls (hLaid := by first | exact HLAID.out | exact LaidW.below HLAID.out (by repeat (first | (with_reducible first | exact HB.out | apply below_alloc | apply pw_below_drewN | apply below_drew1) | exact HB.out | exact Aside0.out (by assumption)))) k a0 a1 true w h).mono ?_
  rintro e w' ⟨rfl, hd⟩
  exact ⟨rfl, hd⟩

end Go.Proofs.YtgfbamddaepebaaDoor.PN
