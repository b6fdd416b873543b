/- Contracts of functions of the program and of its references, over the translation, for values that can be read as data: each call comes to what a Lean function says. Written by the kit's printer and a program of this session's, with hand-made contracts spliced in. -/
import Derived.Test.YtgfbamddaepebaaDoorPNx0
import Derived.Test.YtgfbamddaepebaaDoorPNx1
import Derived.Test.YtgfbamddaepebaaDoorPNx2
import Derived.Test.YtgfbamddaepebaaDoorPNx6
import Derived.Test.YtgfbamddaepebaaDoorPNx9
import Derived.Test.YtgfbamddaepebaaDoorPNx10
import Derived.Test.YtgfbamddaepebaaDoorPNx21
namespace Go.Proofs.YtgfbamddaepebaaDoor.PN
open Go.RowKit Go.Proofs.YtgfbamddaepebaaDoorW.PrintWords Go.Proofs.YtgfbamddaepebaaDoorW.PrintLast Go.Proofs.YtgfbamddaepebaaDoorW.PrintMore
attribute [local go_sem] max2_int min2_int max_two min_two max_three min_three max_four min_four   -- for this text's walks alone
set_option linter.unusedVariables false
set_option linter.unusedSimpArgs false

/-! ### groupcontrollaw2_NumberBack: function 5 -/
def groupcontrollaw2_NumberBack.l0 : Nat → Int → List Int → Int → Int → Option (Bool)
  | 0, _, _, _, _ => none
  | k + 1, x1, x22, x23, x24 => if x24 < x23 then (if 0 ≤ x24 then (if x24 < (x22.length : Int) then ((number_Format.f (rd x22 x24)).bind fun bt217 => (if bt217.2 = 0 then ((number_Parse.f k bt217.1).bind fun bt219 => (if bt219.2 = 0 then (if bt219.1 = (rd x22 x24) then (groupcontrollaw2_NumberBack.l0 k x1 x22 x23 (wrap64 (x24 + 1))) else (some false)) else (some false))) else (groupcontrollaw2_NumberBack.l0 k x1 x22 x23 (wrap64 (x24 + 1))))) else (none)) else (none)) else ((number_FormatHundredths.f (Int.tmod (wrap64 (x1)) 10001)).bind fun bt211 => ((number_Hundredths.f k bt211.1).bind fun bt213 => (if bt211.2 = 0 then (if bt213.2 = 0 then (if bt213.1 = (Int.tmod (wrap64 (x1)) 10001) then ((groupcontrollaw2_sane.f k).bind fun t215 => (some t215)) else (some false)) else (some false)) else (some false))))
def groupcontrollaw2_NumberBack.f (k : Nat) (a0 : Int) (a1 : Int) : Option (Bool) := (some (([a0, wrap64 (a1), wrap64 ((wrap64 (a1)) * 123456789), 4611686018427387904, 1099511627776] : List Int) : List Int)).bind fun y208 => (groupcontrollaw2_NumberBack.l0 k a1 y208 (y208.length : Int) 0)
theorem groupcontrollaw2_NumberBack.mono_l : ∀ k, (∀ y0 y1 y2 y3, LeO (groupcontrollaw2_NumberBack.l0 k y0 y1 y2 y3) (groupcontrollaw2_NumberBack.l0 (k + 1) y0 y1 y2 y3))
  | 0 => fun _ _ _ _ r h => by simp [groupcontrollaw2_NumberBack.l0] at h
  | k + 1 => by
    have ih0 := groupcontrollaw2_NumberBack.mono_l k
    · intro y0 y1 y2 y3
      unfold groupcontrollaw2_NumberBack.l0
      repeat' first
      | (with_reducible exact ih0 _ _ _ _)
      | (with_reducible exact groupcontrollaw2_sane.mono _)
      | (with_reducible exact number_Hundredths.mono _ _)
      | (with_reducible exact number_Parse.mono _ _)
      | (with_reducible exact LeO.refl _)
      | (with_reducible exact LeO.none _)
      | (with_reducible refine LeO.ite ?_ ?_)
      | (with_reducible refine LeO.bind ?_ (fun _ => ?_))
      | exact ih0 _ _ _ _
      | exact groupcontrollaw2_sane.mono _
      | exact number_Hundredths.mono _ _
      | exact number_Parse.mono _ _
      | exact LeO.none _
      | refine LeO.ite ?_ ?_
      | refine LeO.bind ?_ (fun _ => ?_)
theorem groupcontrollaw2_NumberBack.mono : ∀ a0 a1 k, LeO (groupcontrollaw2_NumberBack.f k a0 a1) (groupcontrollaw2_NumberBack.f (k + 1) a0 a1) := by
  intro a0 a1 k
  have ih0 := groupcontrollaw2_NumberBack.mono_l k
  unfold groupcontrollaw2_NumberBack.f
  repeat' first
      | (with_reducible exact ih0 _ _ _ _)
      | (with_reducible exact groupcontrollaw2_sane.mono _)
      | (with_reducible exact number_Hundredths.mono _ _)
      | (with_reducible exact number_Parse.mono _ _)
      | (with_reducible exact LeO.refl _)
      | (with_reducible exact LeO.none _)
      | (with_reducible refine LeO.ite ?_ ?_)
      | (with_reducible refine LeO.bind ?_ (fun _ => ?_))
      | exact ih0 _ _ _ _
      | exact groupcontrollaw2_sane.mono _
      | exact number_Hundredths.mono _ _
      | exact number_Parse.mono _ _
      | exact LeO.none _
      | refine LeO.ite ?_ ?_
      | refine LeO.bind ?_ (fun _ => ?_)
set_option maxHeartbeats 8000000 in
set_option maxRecDepth 100000 in
theorem groupcontrollaw2_NumberBack.calls (k : Nat) (a0 : Int) (a1 : Int) (r : Bool) (w : World) (hLaid : LaidW w) (h : groupcontrollaw2_NumberBack.f k a0 a1 = some r) :
    Calls Tryd.prog 5 #[.int .i64 a0, .int .u16 a1] w fun e w' => e = .returned (.bool r) ∧ Below w.heap.size w w' := by
  have HLAID := Aside0.mk hLaid
  clear hLaid
  have HB := Aside0.mk (Below.refl w.heap.size w)
  have H : ((some (([a0, wrap64 (a1), wrap64 ((wrap64 (a1)) * 123456789), 4611686018427387904, 1099511627776] : List Int) : List Int)).bind fun y208 => (groupcontrollaw2_NumberBack.l0 k a1 y208 (y208.length : Int) 0)) = some r := h
  clear h
  obtain ⟨y208, hy208⟩ : ∃ y_ : List Int, y_ = (([a0, wrap64 (a1), wrap64 ((wrap64 (a1)) * 123456789), 4611686018427387904, 1099511627776] : List Int)) := ⟨_, rfl⟩
  replace H : (groupcontrollaw2_NumberBack.l0 k a1 y208 (y208.length : Int) 0) = some r := by first | (rw [hy208]; with_reducible exact H) | (have H2_ := (Option.bind_some _ _).symm.trans H; rw [hy208]; with_reducible exact H2_) | (have H2_ := (Option.bind_some _ _).symm.trans H; with_reducible exact H2_) | with_reducible exact H | (rw [hy208]; exact H) | exact H
  have Ny208 := Aside0.mk hy208
  clear hy208
  have H' := Aside0.mk H
  clear H
  go_enter Tryd.func5, Tryd.ntmps5
  go_wp2_with (first | ((with_reducible refine gate_dst (N := 22) rfl ?_); refine Kd.R_lit (Kd.int .i64) _ 3 ?hg (N := 22) ?hd (xs := ([a0, wrap64 (a1), wrap64 ((wrap64 (a1)) * 123456789), 4611686018427387904, 1099511627776] : List Int)) (inner := [.int .i64 a0, .int .i64 (wrap64 (a1)), .int .i64 (wrap64 ((wrap64 (a1)) * 123456789)), .int .i64 4611686018427387904, .int .i64 1099511627776]) (ok := fun _ => True) (okp := fun _ => True) ?hr ?hp (fun _ hk => hk) trivial (Below.refl _ _) (Nat.le_refl _) (by simp) ?_; (case hd => rfl); (case hg => rfl); (case hr => first | (go_simp; done) | (go_simp; rfl)); (case hp => exact (Reps.one (show Kd.M (Kd.int .i64) _ _ _ a0 [.int .i64 a0] from rfl) (Reps.one (show Kd.M (Kd.int .i64) _ _ _ (wrap64 (a1)) [.int .i64 (wrap64 (a1))] from rfl) (Reps.one (show Kd.M (Kd.int .i64) _ _ _ (wrap64 ((wrap64 (a1)) * 123456789)) [.int .i64 (wrap64 ((wrap64 (a1)) * 123456789))] from rfl) (Reps.one (show Kd.M (Kd.int .i64) _ _ _ 4611686018427387904 [.int .i64 4611686018427387904] from rfl) (Reps.one (show Kd.M (Kd.int .i64) _ _ _ 1099511627776 [.int .i64 1099511627776] from rfl) (Reps.none _ _))))))); intro v209 w3 ho4 hb hg_ hnew_; clear hg_ hnew_; (first | rw [← Ny208.out] at ho4 | (simp only [Int.reduceToNat] at ho4; rw [← Ny208.out] at ho4)); have n0_ := Aside0.mk (Kd.R_lower ho4 (below_size (by repeat (first | (with_reducible first | exact HB.out | apply below_alloc | apply pw_below_drewN | apply below_drew1) | exact HB.out)))); have n1_ := Aside0.mk (below_step (by repeat (first | (with_reducible first | exact HB.out | apply below_alloc | apply pw_below_drewN | apply below_drew1) | exact HB.out)) hb); clear HB; have HO210 := n0_; have HB := n1_; clear n0_ n1_; clear hb ho4; obtain ⟨Ao5, co5, eo5⟩ := Kd.R_slice HO210.out; subst eo5))
  go_loopg [24] k (fun kq v24 w' => ∃ (x24_1 : Int), v24 = .int .i64 x24_1 ∧ Aside0 (groupcontrollaw2_NumberBack.l0 kq a1 y208 (y208.length : Int) x24_1 = some r) ∧ Aside0 (kq ≤ k) ∧ Aside0 (Kd.R (Kd.int .i64) 3 w' w.heap.size (fun _ => True) (.slice Ao5 y208.length co5) y208) ∧ Aside0 (Below w.heap.size w w'))
  case atStart => exact ⟨(0), (by first | rfl | (simp; done) | (simp [*]; done)), H', ⟨Nat.le_refl _⟩, ⟨by (with_reducible repeat (first | apply Kd.R_alloc | apply Kd.R_drewN | apply Kd.R_drew)); exact HO210.out⟩, ⟨by repeat (first | (with_reducible first | exact HB.out | apply below_alloc | apply pw_below_drewN | apply below_drew1) | exact HB.out)⟩⟩
  case round =>
    clear H'
    try clear p2
    try clear c5
    obtain ⟨x24_1, rfl, HA, HK1, HO_22, HB⟩ := hrel
    cases gk with
    | zero => exact absurd HA.out (by simp [groupcontrollaw2_NumberBack.l0])
    | succ k1 =>
      have H := HA.out
      clear HA
      simp only [groupcontrollaw2_NumberBack.l0] at H
      by_cases c6 : x24_1 < (y208.length : Int)
      · rw [if_pos c6] at H
        have c6b0 : decide (x24_1 < (y208.length : Int)) = true := decide_eq_true c6
        clear c6
        by_cases c7 : 0 ≤ x24_1
        · rw [if_pos c7] at H
          have c7b0 : decide (0 ≤ x24_1) = true := decide_eq_true c7
          clear c7
          by_cases c8 : x24_1 < (y208.length : Int)
          · rw [if_pos c8] at H
            have c8b0 : decide (x24_1 < (y208.length : Int)) = true := decide_eq_true c8
            clear c8
            replace H := Option.bind_eq_some_iff.mp H
            obtain ⟨⟨t217, t218⟩, A90, H⟩ := H
            replace H : (if t218 = 0 then ((number_Parse.f k1 t217).bind fun bt219 => (if bt219.2 = 0 then (if bt219.1 = (rd y208 x24_1) then (groupcontrollaw2_NumberBack.l0 k1 a1 y208 (y208.length : Int) (wrap64 (x24_1 + 1))) else (some false)) else (some false))) else (groupcontrollaw2_NumberBack.l0 k1 a1 y208 (y208.length : Int) (wrap64 (x24_1 + 1)))) = some r := H
            have A9 := Aside0.mk A90
            clear A90
            by_cases c10 : t218 = 0
            · rw [if_pos c10] at H
              have c10b0 : (t218 == 0) = true := beq_iff_eq.mpr c10
              have c10b1 : (t218 != 0) = false := bne_eq_false_iff_eq.mpr c10
              clear c10
              replace H := Option.bind_eq_some_iff.mp H
              obtain ⟨⟨t219, t220⟩, A110, H⟩ := H
              replace H : (if t220 = 0 then (if t219 = (rd y208 x24_1) then (groupcontrollaw2_NumberBack.l0 k1 a1 y208 (y208.length : Int) (wrap64 (x24_1 + 1))) else (some false)) else (some false)) = some r := H
              have A11 := Aside0.mk A110
              clear A110
              by_cases c12 : t220 = 0
              · rw [if_pos c12] at H
                have c12b0 : (t220 == 0) = true := beq_iff_eq.mpr c12
                have c12b1 : (t220 != 0) = false := bne_eq_false_iff_eq.mpr c12
                clear c12
                by_cases c13 : t219 = (rd y208 x24_1)
                · rw [if_pos c13] at H
                  have c13b0 : (t219 == (rd y208 x24_1)) = true := beq_iff_eq.mpr c13
                  have c13b1 : (t219 != (rd y208 x24_1)) = false := bne_eq_false_iff_eq.mpr c13
                  clear c13
                  have H' := Aside0.mk H
                  clear H
                  have p216 : 0 ≤ (x24_1 : Int) := of_decide_eq_true (by first | (with_reducible assumption) | assumption)
                  have q216 : x24_1 < (y208.length : Int) := of_decide_eq_true (by first | (with_reducible assumption) | assumption)
                  obtain ⟨ad216, e216, hx216_0⟩ := Kd.at_int (Kd.R_reads' HO_22.out).2.2 x24_1 p216 q216
                  cases e216
                  replace p216 := eq_true p216
                  replace q216 := eq_true q216
                  go_wp2_with (first | ((with_reducible refine gate_callee (f := 17) rfl ?_); refine goesL_ (some 30) rfl rfl Tryd.func17 (by kernel_rfl) rfl #[.int .i64 (rd y208 x24_1)] rfl (by (try simp only [List.map_toArray, List.map_cons, List.map_nil]); first | done | rfl | (simp only [List.length_drop, List.length_take]; rfl)) ?_; (with_reducible refine (number_Format.calls (hLaid := by first | exact HLAID.out | exact LaidW.below HLAID.out (by repeat (first | (with_reducible first | exact HB.out | apply below_alloc | apply pw_below_drewN | apply below_drew1) | exact HB.out | exact Aside0.out (by assumption)))) (rd y208 x24_1) t217 t218 _ A9.out).mono ?_); rintro e w14 ⟨rfl, hb⟩; refine ⟨_, rfl, ?_⟩; have n0_ := Aside0.mk (Kd.R_below (by (with_reducible repeat (first | apply Kd.R_alloc | apply Kd.R_drewN | apply Kd.R_drew)); exact HO_22.out) hb); have n1_ := Aside0.mk (below_step (by repeat (first | (with_reducible first | exact HB.out | apply below_alloc | apply pw_below_drewN | apply below_drew1) | exact HB.out)) hb); clear HO_22; clear HB; have HO_22 := n0_; have HB := n1_; clear n0_ n1_; (try clear hb); (try clear hb2); (try clear hk); (try clear hi)) | ((with_reducible refine gate_callee (f := 13) rfl ?_); refine goesL_ (some 37) rfl rfl Tryd.func13 (by kernel_rfl) rfl #[.string t217] rfl (by (try simp only [List.map_toArray, List.map_cons, List.map_nil]); first | done | rfl | (simp only [List.length_drop, List.length_take]; rfl)) ?_; (with_reducible refine (number_Parse.calls k1 t217 t219 t220 _ A11.out).mono ?_); rintro e w15 ⟨rfl, hb⟩; refine ⟨_, rfl, ?_⟩; have n0_ := Aside0.mk (Kd.R_below (by (with_reducible repeat (first | apply Kd.R_alloc | apply Kd.R_drewN | apply Kd.R_drew)); exact HO_22.out) hb); have n1_ := Aside0.mk (below_step (by repeat (first | (with_reducible first | exact HB.out | apply below_alloc | apply pw_below_drewN | apply below_drew1) | exact HB.out)) hb); clear HO_22; clear HB; have HO_22 := n0_; have HB := n1_; clear n0_ n1_; (try clear hb); (try clear hb2); (try clear hk); (try clear hi)))
                  go_roundg k1
                  case measure => have := HK1.out; omega
                  case rel => exact ⟨(wrap64 (x24_1 + 1)), (by first | rfl | (simp; done) | (simp [*]; done)), H', ⟨by have := HK1.out; omega⟩, ⟨by (with_reducible repeat (first | apply Kd.R_alloc | apply Kd.R_drewN | apply Kd.R_drew)); exact HO_22.out⟩, ⟨by repeat (first | (with_reducible first | exact HB.out | apply below_alloc | apply pw_below_drewN | apply below_drew1) | exact HB.out)⟩⟩
                · rw [if_neg c13] at H
                  have c13b0 : (t219 == (rd y208 x24_1)) = false := beq_eq_false_iff_ne.mpr c13
                  have c13b1 : (t219 != (rd y208 x24_1)) = true := bne_iff_ne.mpr c13
                  obtain rfl := Option.some.inj H
                  have p216 : 0 ≤ (x24_1 : Int) := of_decide_eq_true (by first | (with_reducible assumption) | assumption)
                  have q216 : x24_1 < (y208.length : Int) := of_decide_eq_true (by first | (with_reducible assumption) | assumption)
                  obtain ⟨ad216, e216, hx216_0⟩ := Kd.at_int (Kd.R_reads' HO_22.out).2.2 x24_1 p216 q216
                  cases e216
                  replace p216 := eq_true p216
                  replace q216 := eq_true q216
                  go_wp2_with (first | ((with_reducible refine gate_callee (f := 17) rfl ?_); refine goesL_ (some 30) rfl rfl Tryd.func17 (by kernel_rfl) rfl #[.int .i64 (rd y208 x24_1)] rfl (by (try simp only [List.map_toArray, List.map_cons, List.map_nil]); first | done | rfl | (simp only [List.length_drop, List.length_take]; rfl)) ?_; (with_reducible refine (number_Format.calls (hLaid := by first | exact HLAID.out | exact LaidW.below HLAID.out (by repeat (first | (with_reducible first | exact HB.out | apply below_alloc | apply pw_below_drewN | apply below_drew1) | exact HB.out | exact Aside0.out (by assumption)))) (rd y208 x24_1) t217 t218 _ A9.out).mono ?_); rintro e w16 ⟨rfl, hb⟩; refine ⟨_, rfl, ?_⟩; have n0_ := Aside0.mk (Kd.R_below (by (with_reducible repeat (first | apply Kd.R_alloc | apply Kd.R_drewN | apply Kd.R_drew)); exact HO_22.out) hb); have n1_ := Aside0.mk (below_step (by repeat (first | (with_reducible first | exact HB.out | apply below_alloc | apply pw_below_drewN | apply below_drew1) | exact HB.out)) hb); clear HO_22; clear HB; have HO_22 := n0_; have HB := n1_; clear n0_ n1_; (try clear hb); (try clear hb2); (try clear hk); (try clear hi)) | ((with_reducible refine gate_callee (f := 13) rfl ?_); refine goesL_ (some 37) rfl rfl Tryd.func13 (by kernel_rfl) rfl #[.string t217] rfl (by (try simp only [List.map_toArray, List.map_cons, List.map_nil]); first | done | rfl | (simp only [List.length_drop, List.length_take]; rfl)) ?_; (with_reducible refine (number_Parse.calls k1 t217 t219 t220 _ A11.out).mono ?_); rintro e w17 ⟨rfl, hb⟩; refine ⟨_, rfl, ?_⟩; have n0_ := Aside0.mk (Kd.R_below (by (with_reducible repeat (first | apply Kd.R_alloc | apply Kd.R_drewN | apply Kd.R_drew)); exact HO_22.out) hb); have n1_ := Aside0.mk (below_step (by repeat (first | (with_reducible first | exact HB.out | apply below_alloc | apply pw_below_drewN | apply below_drew1) | exact HB.out)) hb); clear HO_22; clear HB; have HO_22 := n0_; have HB := n1_; clear n0_ n1_; (try clear hb); (try clear hb2); (try clear hk); (try clear hi)))
                  go_ret
                  exact ⟨by first | rfl | (simp [errW_none, errW_some] <;> rfl) | (simp [*, errW_none, errW_some] <;> rfl), by repeat (first | (with_reducible first | exact HB.out | apply below_alloc | apply pw_below_drewN | apply below_drew1) | exact HB.out)⟩
              · rw [if_neg c12] at H
                have c12b0 : (t220 == 0) = false := beq_eq_false_iff_ne.mpr c12
                have c12b1 : (t220 != 0) = true := bne_iff_ne.mpr c12
                obtain rfl := Option.some.inj H
                have p216 : 0 ≤ (x24_1 : Int) := of_decide_eq_true (by first | (with_reducible assumption) | assumption)
                have q216 : x24_1 < (y208.length : Int) := of_decide_eq_true (by first | (with_reducible assumption) | assumption)
                obtain ⟨ad216, e216, hx216_0⟩ := Kd.at_int (Kd.R_reads' HO_22.out).2.2 x24_1 p216 q216
                cases e216
                replace p216 := eq_true p216
                replace q216 := eq_true q216
                go_wp2_with (first | ((with_reducible refine gate_callee (f := 17) rfl ?_); refine goesL_ (some 30) rfl rfl Tryd.func17 (by kernel_rfl) rfl #[.int .i64 (rd y208 x24_1)] rfl (by (try simp only [List.map_toArray, List.map_cons, List.map_nil]); first | done | rfl | (simp only [List.length_drop, List.length_take]; rfl)) ?_; (with_reducible refine (number_Format.calls (hLaid := by first | exact HLAID.out | exact LaidW.below HLAID.out (by repeat (first | (with_reducible first | exact HB.out | apply below_alloc | apply pw_below_drewN | apply below_drew1) | exact HB.out | exact Aside0.out (by assumption)))) (rd y208 x24_1) t217 t218 _ A9.out).mono ?_); rintro e w18 ⟨rfl, hb⟩; refine ⟨_, rfl, ?_⟩; have n0_ := Aside0.mk (Kd.R_below (by (with_reducible repeat (first | apply Kd.R_alloc | apply Kd.R_drewN | apply Kd.R_drew)); exact HO_22.out) hb); have n1_ := Aside0.mk (below_step (by repeat (first | (with_reducible first | exact HB.out | apply below_alloc | apply pw_below_drewN | apply below_drew1) | exact HB.out)) hb); clear HO_22; clear HB; have HO_22 := n0_; have HB := n1_; clear n0_ n1_; (try clear hb); (try clear hb2); (try clear hk); (try clear hi)) | ((with_reducible refine gate_callee (f := 13) rfl ?_); refine goesL_ (some 37) rfl rfl Tryd.func13 (by kernel_rfl) rfl #[.string t217] rfl (by (try simp only [List.map_toArray, List.map_cons, List.map_nil]); first | done | rfl | (simp only [List.length_drop, List.length_take]; rfl)) ?_; (with_reducible refine (number_Parse.calls k1 t217 t219 t220 _ A11.out).mono ?_); rintro e w19 ⟨rfl, hb⟩; refine ⟨_, rfl, ?_⟩; have n0_ := Aside0.mk (Kd.R_below (by (with_reducible repeat (first | apply Kd.R_alloc | apply Kd.R_drewN | apply Kd.R_drew)); exact HO_22.out) hb); have n1_ := Aside0.mk (below_step (by repeat (first | (with_reducible first | exact HB.out | apply below_alloc | apply pw_below_drewN | apply below_drew1) | exact HB.out)) hb); clear HO_22; clear HB; have HO_22 := n0_; have HB := n1_; clear n0_ n1_; (try clear hb); (try clear hb2); (try clear hk); (try clear hi)))
                go_ret
                exact ⟨by first | rfl | (simp [errW_none, errW_some] <;> rfl) | (simp [*, errW_none, errW_some] <;> rfl), by repeat (first | (with_reducible first | exact HB.out | apply below_alloc | apply pw_below_drewN | apply below_drew1) | exact HB.out)⟩
            · rw [if_neg c10] at H
              have c10b0 : (t218 == 0) = false := beq_eq_false_iff_ne.mpr c10
              have c10b1 : (t218 != 0) = true := bne_iff_ne.mpr c10
              have H' := Aside0.mk H
              clear H
              have p216 : 0 ≤ (x24_1 : Int) := of_decide_eq_true (by first | (with_reducible assumption) | assumption)
              have q216 : x24_1 < (y208.length : Int) := of_decide_eq_true (by first | (with_reducible assumption) | assumption)
              obtain ⟨ad216, e216, hx216_0⟩ := Kd.at_int (Kd.R_reads' HO_22.out).2.2 x24_1 p216 q216
              cases e216
              replace p216 := eq_true p216
              replace q216 := eq_true q216
              go_wp2_with (first | ((with_reducible refine gate_callee (f := 17) rfl ?_); refine goesL_ (some 30) rfl rfl Tryd.func17 (by kernel_rfl) rfl #[.int .i64 (rd y208 x24_1)] rfl (by (try simp only [List.map_toArray, List.map_cons, List.map_nil]); first | done | rfl | (simp only [List.length_drop, List.length_take]; rfl)) ?_; (with_reducible refine (number_Format.calls (hLaid := by first | exact HLAID.out | exact LaidW.below HLAID.out (by repeat (first | (with_reducible first | exact HB.out | apply below_alloc | apply pw_below_drewN | apply below_drew1) | exact HB.out | exact Aside0.out (by assumption)))) (rd y208 x24_1) t217 t218 _ A9.out).mono ?_); rintro e w20 ⟨rfl, hb⟩; refine ⟨_, rfl, ?_⟩; have n0_ := Aside0.mk (Kd.R_below (by (with_reducible repeat (first | apply Kd.R_alloc | apply Kd.R_drewN | apply Kd.R_drew)); exact HO_22.out) hb); have n1_ := Aside0.mk (below_step (by repeat (first | (with_reducible first | exact HB.out | apply below_alloc | apply pw_below_drewN | apply below_drew1) | exact HB.out)) hb); clear HO_22; clear HB; have HO_22 := n0_; have HB := n1_; clear n0_ n1_; (try clear hb); (try clear hb2); (try clear hk); (try clear hi)))
              go_roundg k1
              case measure => have := HK1.out; omega
              case rel => exact ⟨(wrap64 (x24_1 + 1)), (by first | rfl | (simp; done) | (simp [*]; done)), H', ⟨by have := HK1.out; omega⟩, ⟨by (with_reducible repeat (first | apply Kd.R_alloc | apply Kd.R_drewN | apply Kd.R_drew)); exact HO_22.out⟩, ⟨by repeat (first | (with_reducible first | exact HB.out | apply below_alloc | apply pw_below_drewN | apply below_drew1) | exact HB.out)⟩⟩
          · rw [if_neg c8] at H
            exact absurd H (by simp)
        · rw [if_neg c7] at H
          exact absurd H (by simp)
      · rw [if_neg c6] at H
        have c6b0 : decide (x24_1 < (y208.length : Int)) = false := decide_eq_false c6
        clear c6
        replace H := Option.bind_eq_some_iff.mp H
        obtain ⟨⟨t211, t212⟩, A210, H⟩ := H
        replace H : ((number_Hundredths.f k1 t211).bind fun bt213 => (if t212 = 0 then (if bt213.2 = 0 then (if bt213.1 = (Int.tmod (wrap64 (a1)) 10001) then ((groupcontrollaw2_sane.f k1).bind fun t215 => (some t215)) else (some false)) else (some false)) else (some false))) = some r := H
        have A21 := Aside0.mk A210
        clear A210
        replace H := Option.bind_eq_some_iff.mp H
        obtain ⟨⟨t213, t214⟩, A220, H⟩ := H
        replace H : (if t212 = 0 then (if t214 = 0 then (if t213 = (Int.tmod (wrap64 (a1)) 10001) then ((groupcontrollaw2_sane.f k1).bind fun t215 => (some t215)) else (some false)) else (some false)) else (some false)) = some r := H
        have A22 := Aside0.mk A220
        clear A220
        by_cases c23 : t212 = 0
        · rw [if_pos c23] at H
          have c23b0 : (t212 == 0) = true := beq_iff_eq.mpr c23
          have c23b1 : (t212 != 0) = false := bne_eq_false_iff_eq.mpr c23
          clear c23
          by_cases c24 : t214 = 0
          · rw [if_pos c24] at H
            have c24b0 : (t214 == 0) = true := beq_iff_eq.mpr c24
            have c24b1 : (t214 != 0) = false := bne_eq_false_iff_eq.mpr c24
            clear c24
            by_cases c25 : t213 = (Int.tmod (wrap64 (a1)) 10001)
            · rw [if_pos c25] at H
              have c25b0 : (t213 == (Int.tmod (wrap64 (a1)) 10001)) = true := beq_iff_eq.mpr c25
              have c25b1 : (t213 != (Int.tmod (wrap64 (a1)) 10001)) = false := bne_eq_false_iff_eq.mpr c25
              clear c25
              replace H := Option.bind_eq_some_iff.mp H
              obtain ⟨t215, A260, H⟩ := H
              replace H : (some t215) = some r := H
              have A26 := Aside0.mk A260
              clear A260
              obtain rfl := Option.some.inj H
              go_wp2_with (first | ((with_reducible refine gate_callee (f := 6) rfl ?_); refine goesL_ (some 53) rfl rfl Tryd.func6 (by kernel_rfl) rfl #[.int .i64 (Int.tmod (wrap64 (a1)) 10001)] rfl (by (try simp only [List.map_toArray, List.map_cons, List.map_nil]); first | done | rfl | (simp only [List.length_drop, List.length_take]; rfl)) ?_; (with_reducible refine (number_FormatHundredths.calls (hLaid := by first | exact HLAID.out | exact LaidW.below HLAID.out (by repeat (first | (with_reducible first | exact HB.out | apply below_alloc | apply pw_below_drewN | apply below_drew1) | exact HB.out | exact Aside0.out (by assumption)))) (Int.tmod (wrap64 (a1)) 10001) t211 t212 _ A21.out).mono ?_); rintro e w27 ⟨rfl, hb⟩; refine ⟨_, rfl, ?_⟩; have n0_ := Aside0.mk (Kd.R_below (by (with_reducible repeat (first | apply Kd.R_alloc | apply Kd.R_drewN | apply Kd.R_drew)); exact HO_22.out) hb); have n1_ := Aside0.mk (below_step (by repeat (first | (with_reducible first | exact HB.out | apply below_alloc | apply pw_below_drewN | apply below_drew1) | exact HB.out)) hb); clear HO_22; clear HB; have HO_22 := n0_; have HB := n1_; clear n0_ n1_; (try clear hb); (try clear hb2); (try clear hk); (try clear hi)) | ((with_reducible refine gate_callee (f := 7) rfl ?_); refine goesL_ (some 58) rfl rfl Tryd.func7 (by kernel_rfl) rfl #[.string t211] rfl (by (try simp only [List.map_toArray, List.map_cons, List.map_nil]); first | done | rfl | (simp only [List.length_drop, List.length_take]; rfl)) ?_; (with_reducible refine (number_Hundredths.calls k1 t211 t213 t214 _ A22.out).mono ?_); rintro e w28 ⟨rfl, hb⟩; refine ⟨_, rfl, ?_⟩; have n0_ := Aside0.mk (Kd.R_below (by (with_reducible repeat (first | apply Kd.R_alloc | apply Kd.R_drewN | apply Kd.R_drew)); exact HO_22.out) hb); have n1_ := Aside0.mk (below_step (by repeat (first | (with_reducible first | exact HB.out | apply below_alloc | apply pw_below_drewN | apply below_drew1) | exact HB.out)) hb); clear HO_22; clear HB; have HO_22 := n0_; have HB := n1_; clear n0_ n1_; (try clear hb); (try clear hb2); (try clear hk); (try clear hi)) | (go_at_call 9; (with_reducible refine (groupcontrollaw2_sane.calls k1  t215 _ A26.out).mono ?_); rintro e w29 ⟨rfl, hb⟩; have n0_ := Aside0.mk (Kd.R_below (by (with_reducible repeat (first | apply Kd.R_alloc | apply Kd.R_drewN | apply Kd.R_drew)); exact HO_22.out) hb); have n1_ := Aside0.mk (below_step (by repeat (first | (with_reducible first | exact HB.out | apply below_alloc | apply pw_below_drewN | apply below_drew1) | exact HB.out)) hb); clear HO_22; clear HB; have HO_22 := n0_; have HB := n1_; clear n0_ n1_; (try clear hb); (try clear hb2); (try clear hk); (try clear hi)))
              go_ret
              exact ⟨by first | rfl | (simp [errW_none, errW_some] <;> rfl) | (simp [*, errW_none, errW_some] <;> rfl), by repeat (first | (with_reducible first | exact HB.out | apply below_alloc | apply pw_below_drewN | apply below_drew1) | exact HB.out)⟩
            · rw [if_neg c25] at H
              have c25b0 : (t213 == (Int.tmod (wrap64 (a1)) 10001)) = false := beq_eq_false_iff_ne.mpr c25
              have c25b1 : (t213 != (Int.tmod (wrap64 (a1)) 10001)) = true := bne_iff_ne.mpr c25
              obtain rfl := Option.some.inj H
              go_wp2_with (first | ((with_reducible refine gate_callee (f := 6) rfl ?_); refine goesL_ (some 53) rfl rfl Tryd.func6 (by kernel_rfl) rfl #[.int .i64 (Int.tmod (wrap64 (a1)) 10001)] rfl (by (try simp only [List.map_toArray, List.map_cons, List.map_nil]); first | done | rfl | (simp only [List.length_drop, List.length_take]; rfl)) ?_; (with_reducible refine (number_FormatHundredths.calls (hLaid := by first | exact HLAID.out | exact LaidW.below HLAID.out (by repeat (first | (with_reducible first | exact HB.out | apply below_alloc | apply pw_below_drewN | apply below_drew1) | exact HB.out | exact Aside0.out (by assumption)))) (Int.tmod (wrap64 (a1)) 10001) t211 t212 _ A21.out).mono ?_); rintro e w30 ⟨rfl, hb⟩; refine ⟨_, rfl, ?_⟩; have n0_ := Aside0.mk (Kd.R_below (by (with_reducible repeat (first | apply Kd.R_alloc | apply Kd.R_drewN | apply Kd.R_drew)); exact HO_22.out) hb); have n1_ := Aside0.mk (below_step (by repeat (first | (with_reducible first | exact HB.out | apply below_alloc | apply pw_below_drewN | apply below_drew1) | exact HB.out)) hb); clear HO_22; clear HB; have HO_22 := n0_; have HB := n1_; clear n0_ n1_; (try clear hb); (try clear hb2); (try clear hk); (try clear hi)) | ((with_reducible refine gate_callee (f := 7) rfl ?_); refine goesL_ (some 58) rfl rfl Tryd.func7 (by kernel_rfl) rfl #[.string t211] rfl (by (try simp only [List.map_toArray, List.map_cons, List.map_nil]); first | done | rfl | (simp only [List.length_drop, List.length_take]; rfl)) ?_; (with_reducible refine (number_Hundredths.calls k1 t211 t213 t214 _ A22.out).mono ?_); rintro e w31 ⟨rfl, hb⟩; refine ⟨_, rfl, ?_⟩; have n0_ := Aside0.mk (Kd.R_below (by (with_reducible repeat (first | apply Kd.R_alloc | apply Kd.R_drewN | apply Kd.R_drew)); exact HO_22.out) hb); have n1_ := Aside0.mk (below_step (by repeat (first | (with_reducible first | exact HB.out | apply below_alloc | apply pw_below_drewN | apply below_drew1) | exact HB.out)) hb); clear HO_22; clear HB; have HO_22 := n0_; have HB := n1_; clear n0_ n1_; (try clear hb); (try clear hb2); (try clear hk); (try clear hi)))
              go_ret
              exact ⟨by first | rfl | (simp [errW_none, errW_some] <;> rfl) | (simp [*, errW_none, errW_some] <;> rfl), by repeat (first | (with_reducible first | exact HB.out | apply below_alloc | apply pw_below_drewN | apply below_drew1) | exact HB.out)⟩
          · rw [if_neg c24] at H
            have c24b0 : (t214 == 0) = false := beq_eq_false_iff_ne.mpr c24
            have c24b1 : (t214 != 0) = true := bne_iff_ne.mpr c24
            obtain rfl := Option.some.inj H
            go_wp2_with (first | ((with_reducible refine gate_callee (f := 6) rfl ?_); refine goesL_ (some 53) rfl rfl Tryd.func6 (by kernel_rfl) rfl #[.int .i64 (Int.tmod (wrap64 (a1)) 10001)] rfl (by (try simp only [List.map_toArray, List.map_cons, List.map_nil]); first | done | rfl | (simp only [List.length_drop, List.length_take]; rfl)) ?_; (with_reducible refine (number_FormatHundredths.calls (hLaid := by first | exact HLAID.out | exact LaidW.below HLAID.out (by repeat (first | (with_reducible first | exact HB.out | apply below_alloc | apply pw_below_drewN | apply below_drew1) | exact HB.out | exact Aside0.out (by assumption)))) (Int.tmod (wrap64 (a1)) 10001) t211 t212 _ A21.out).mono ?_); rintro e w32 ⟨rfl, hb⟩; refine ⟨_, rfl, ?_⟩; have n0_ := Aside0.mk (Kd.R_below (by (with_reducible repeat (first | apply Kd.R_alloc | apply Kd.R_drewN | apply Kd.R_drew)); exact HO_22.out) hb); have n1_ := Aside0.mk (below_step (by repeat (first | (with_reducible first | exact HB.out | apply below_alloc | apply pw_below_drewN | apply below_drew1) | exact HB.out)) hb); clear HO_22; clear HB; have HO_22 := n0_; have HB := n1_; clear n0_ n1_; (try clear hb); (try clear hb2); (try clear hk); (try clear hi)) | ((with_reducible refine gate_callee (f := 7) rfl ?_); refine goesL_ (some 58) rfl rfl Tryd.func7 (by kernel_rfl) rfl #[.string t211] rfl (by (try simp only [List.map_toArray, List.map_cons, List.map_nil]); first | done | rfl | (simp only [List.length_drop, List.length_take]; rfl)) ?_; (with_reducible refine (number_Hundredths.calls k1 t211 t213 t214 _ A22.out).mono ?_); rintro e w33 ⟨rfl, hb⟩; refine ⟨_, rfl, ?_⟩; have n0_ := Aside0.mk (Kd.R_below (by (with_reducible repeat (first | apply Kd.R_alloc | apply Kd.R_drewN | apply Kd.R_drew)); exact HO_22.out) hb); have n1_ := Aside0.mk (below_step (by repeat (first | (with_reducible first | exact HB.out | apply below_alloc | apply pw_below_drewN | apply below_drew1) | exact HB.out)) hb); clear HO_22; clear HB; have HO_22 := n0_; have HB := n1_; clear n0_ n1_; (try clear hb); (try clear hb2); (try clear hk); (try clear hi)))
            go_ret
            exact ⟨by first | rfl | (simp [errW_none, errW_some] <;> rfl) | (simp [*, errW_none, errW_some] <;> rfl), by repeat (first | (with_reducible first | exact HB.out | apply below_alloc | apply pw_below_drewN | apply below_drew1) | exact HB.out)⟩
        · rw [if_neg c23] at H
          have c23b0 : (t212 == 0) = false := beq_eq_false_iff_ne.mpr c23
          have c23b1 : (t212 != 0) = true := bne_iff_ne.mpr c23
          obtain rfl := Option.some.inj H
          go_wp2_with (first | ((with_reducible refine gate_callee (f := 6) rfl ?_); refine goesL_ (some 53) rfl rfl Tryd.func6 (by kernel_rfl) rfl #[.int .i64 (Int.tmod (wrap64 (a1)) 10001)] rfl (by (try simp only [List.map_toArray, List.map_cons, List.map_nil]); first | done | rfl | (simp only [List.length_drop, List.length_take]; rfl)) ?_; (with_reducible refine (number_FormatHundredths.calls (hLaid := by first | exact HLAID.out | exact LaidW.below HLAID.out (by repeat (first | (with_reducible first | exact HB.out | apply below_alloc | apply pw_below_drewN | apply below_drew1) | exact HB.out | exact Aside0.out (by assumption)))) (Int.tmod (wrap64 (a1)) 10001) t211 t212 _ A21.out).mono ?_); rintro e w34 ⟨rfl, hb⟩; refine ⟨_, rfl, ?_⟩; have n0_ := Aside0.mk (Kd.R_below (by (with_reducible repeat (first | apply Kd.R_alloc | apply Kd.R_drewN | apply Kd.R_drew)); exact HO_22.out) hb); have n1_ := Aside0.mk (below_step (by repeat (first | (with_reducible first | exact HB.out | apply below_alloc | apply pw_below_drewN | apply below_drew1) | exact HB.out)) hb); clear HO_22; clear HB; have HO_22 := n0_; have HB := n1_; clear n0_ n1_; (try clear hb); (try clear hb2); (try clear hk); (try clear hi)) | ((with_reducible refine gate_callee (f := 7) rfl ?_); refine goesL_ (some 58) rfl rfl Tryd.func7 (by kernel_rfl) rfl #[.string t211] rfl (by (try simp only [List.map_toArray, List.map_cons, List.map_nil]); first | done | rfl | (simp only [List.length_drop, List.length_take]; rfl)) ?_; (with_reducible refine (number_Hundredths.calls k1 t211 t213 t214 _ A22.out).mono ?_); rintro e w35 ⟨rfl, hb⟩; refine ⟨_, rfl, ?_⟩; have n0_ := Aside0.mk (Kd.R_below (by (with_reducible repeat (first | apply Kd.R_alloc | apply Kd.R_drewN | apply Kd.R_drew)); exact HO_22.out) hb); have n1_ := Aside0.mk (below_step (by repeat (first | (with_reducible first | exact HB.out | apply below_alloc | apply pw_below_drewN | apply below_drew1) | exact HB.out)) hb); clear HO_22; clear HB; have HO_22 := n0_; have HB := n1_; clear n0_ n1_; (try clear hb); (try clear hb2); (try clear hk); (try clear hi)))
          go_ret
          exact ⟨by first | rfl | (simp [errW_none, errW_some] <;> rfl) | (simp [*, errW_none, errW_some] <;> rfl), by repeat (first | (with_reducible first | exact HB.out | apply below_alloc | apply pw_below_drewN | apply below_drew1) | exact HB.out)⟩

/-- THE ONE PURE STATEMENT of groupcontrollaw2_NumberBack: yours. -/
def groupcontrollaw2_NumberBack.Pure : Prop := ∀ (a0 : Int) (a1 : Int), (Lit.int .i64 a0).wf = true → (Lit.int .u16 a1).wf = true → ∃ k, groupcontrollaw2_NumberBack.f k a0 a1 = some true
theorem groupcontrollaw2_NumberBack.walk (P : groupcontrollaw2_NumberBack.Pure) (a0 : Int) (a1 : Int) (w : World) (hLaid : LaidW w) (w0 : (Lit.int .i64 a0).wf = true) (w1 : (Lit.int .u16 a1).wf = true) :
    Calls Tryd.prog 5 #[.int .i64 a0, .int .u16 a1] w fun e w' => e = .returned (.bool true) ∧ Below w.heap.size w w' := by
  have HLAID := Aside0.mk hLaid
  clear hLaid
  obtain ⟨k, h⟩ := P a0 a1 w0 w1
  refine (groupcontrollaw2_NumberBack.calls (hLaid := by first | exact HLAID.out | exact LaidW.below HLAID.out (by repeat (first | (with_reducible first | exact HB.out | apply below_alloc | apply pw_below_drewN | apply below_drew1) | exact HB.out | exact Aside0.out (by assumption)))) k a0 a1 true w h).mono ?_
  rintro e w' ⟨rfl, hd⟩
  exact ⟨rfl, hd⟩

end Go.Proofs.YtgfbamddaepebaaDoor.PN
