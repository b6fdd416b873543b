/- Contracts of functions of the program and of its references, over the translation, for values that can be read as data: each call comes to what a Lean function says. Written by the kit's printer and a program of this session's, with hand-made contracts spliced in. -/
import Derived.Test.YtgfbamddaepebaaDoorPNx0
import Derived.Test.YtgfbamddaepebaaDoorPNx1
import Derived.Test.YtgfbamddaepebaaDoorPNx2
import Derived.Test.YtgfbamddaepebaaDoorPNx6
import Derived.Test.YtgfbamddaepebaaDoorPNx9
import Derived.Test.YtgfbamddaepebaaDoorPNx10
import Derived.Test.YtgfbamddaepebaaDoorPNx12
import Derived.Test.YtgfbamddaepebaaDoorPNx13
import Derived.Test.YtgfbamddaepebaaDoorPNx14
import Derived.Test.YtgfbamddaepebaaDoorPNx16
import Derived.Test.YtgfbamddaepebaaDoorPNx19
import Derived.Test.YtgfbamddaepebaaDoorPNx20
import Derived.Test.YtgfbamddaepebaaDoorPNx21
import Derived.Test.YtgfbamddaepebaaDoorPNx22
import Derived.Test.YtgfbamddaepebaaDoorPNx23
namespace Go.Proofs.YtgfbamddaepebaaDoor.PN
open Go.RowKit Go.Proofs.YtgfbamddaepebaaDoorW.PrintWords Go.Proofs.YtgfbamddaepebaaDoorW.PrintLast Go.Proofs.YtgfbamddaepebaaDoorW.PrintMore
attribute [local go_sem] max2_int min2_int max_two min_two max_three min_three max_four min_four   -- for this text's walks alone
set_option linter.unusedVariables false
set_option linter.unusedSimpArgs false

/-! ### groupcontrollaw2_NumberTexts: function 4 -/
mutual
def groupcontrollaw2_NumberTexts.j0 : Nat → ByteArray → Int → List Int → Bool → Option (Bool)
  | 0, _, _, _, _ => none
  | k + 1, x0, x1, x2, x35 => if x35 = true then ((groupcontrollaw2_sane.f k).bind fun t167 => (some t167)) else ((groupcontrolmade_Roll.f x2).bind fun bt168 => ((groupcontrollaw2_text.f k bt168.1 bt168.2).bind fun bt171 => ((groupcontrollaw2_text.f k bt168.1 bt171.2).bind fun bt173 => ((groupcontrollaw2_text.f k bt168.1 bt173.2).bind fun bt175 => (if 3 + bt175.1.size ≤ 9223372036854775807 then ((some (([x0, bt171.1, bt173.1, (⟨#[57, 57, 46]⟩ : ByteArray) ++ bt175.1] : List ByteArray) : List ByteArray)).bind fun y177 => (groupcontrollaw2_NumberTexts.l0 k x1 y177 (y177.length : Int) 0 bt168.1 bt175.2)) else (none))))))
def groupcontrollaw2_NumberTexts.l0 : Nat → Int → List ByteArray → Int → Int → List Int → Int → Option (Bool)
  | 0, _, _, _, _, _, _ => none
  | k + 1, x1, x47, x48, x49, x171000, x171001 => if x49 < x48 then (if 0 ≤ x49 then (if x49 < (x47.length : Int) then ((number_Parse.f k (rdOf ByteArray.empty x47 x49)).bind fun bt181 => ((groupcontrolref2_Parse.f k (rdOf ByteArray.empty x47 x49)).bind fun bt183 => ((number_Hundredths.f k (rdOf ByteArray.empty x47 x49)).bind fun bt185 => ((groupcontrolref2_Hundredths.f (rdOf ByteArray.empty x47 x49)).bind fun bt187 => (if bt181.1 = bt183.1 then (if bt181.2 = bt183.2 then (if bt185.1 = bt187.1 then (if bt185.2 = bt187.2 then (groupcontrollaw2_NumberTexts.l0 k x1 x47 x48 (wrap64 (x49 + 1)) x171000 x171001) else (some false)) else (some false)) else (some false)) else (some false)))))) else (none)) else (none)) else ((groupcontrolmade_Dice_Next.f k x171000 x171001 20000).bind fun bt189 => ((some (([x1, bt189.1, (-1), 1099511627776, 1099511627777, 4611686018427387904, 4611686018427387905, 10000, 10001] : List Int) : List Int)).bind fun y191 => (groupcontrollaw2_NumberTexts.l1 k y191 (y191.length : Int) 0)))
def groupcontrollaw2_NumberTexts.l1 : Nat → List Int → Int → Int → Option (Bool)
  | 0, _, _, _ => none
  | k + 1, x95, x96, x97 => if x97 < x96 then (if 0 ≤ x97 then (if x97 < (x95.length : Int) then ((number_Format.f (rd x95 x97)).bind fun bt196 => ((groupcontrolref2_Format.f k (rd x95 x97)).bind fun bt198 => ((number_FormatHundredths.f (rd x95 x97)).bind fun bt200 => ((groupcontrolref2_FormatHundredths.f k (rd x95 x97)).bind fun bt202 => (if bt196.1.toList = bt198.1.toList then (if bt196.2 = bt198.2 then (if bt200.1.toList = bt202.1.toList then (if bt200.2 = bt202.2 then (groupcontrollaw2_NumberTexts.l1 k x95 x96 (wrap64 (x97 + 1))) else (some false)) else (some false)) else (some false)) else (some false)))))) else (none)) else (none)) else ((groupcontrollaw2_sane.f k).bind fun t194 => (some t194))
end
def groupcontrollaw2_NumberTexts.f (k : Nat) (a0 : ByteArray) (a1 : Int) (l2 : List Int) : Option (Bool) := if (a0.size : Int) > 300 then (groupcontrollaw2_NumberTexts.j0 k a0 a1 l2 true) else ((groupcontrolmade_Light.f l2).bind fun t166 => (groupcontrollaw2_NumberTexts.j0 k a0 a1 l2 (!t166)))
theorem groupcontrollaw2_NumberTexts.mono_l : ∀ k, (∀ y0 y1 y2 y3, LeO (groupcontrollaw2_NumberTexts.j0 k y0 y1 y2 y3) (groupcontrollaw2_NumberTexts.j0 (k + 1) y0 y1 y2 y3)) ∧ (∀ y0 y1 y2 y3 y4 y5, LeO (groupcontrollaw2_NumberTexts.l0 k y0 y1 y2 y3 y4 y5) (groupcontrollaw2_NumberTexts.l0 (k + 1) y0 y1 y2 y3 y4 y5)) ∧ (∀ y0 y1 y2, LeO (groupcontrollaw2_NumberTexts.l1 k y0 y1 y2) (groupcontrollaw2_NumberTexts.l1 (k + 1) y0 y1 y2))
  | 0 => ⟨fun _ _ _ _ r h => by simp [groupcontrollaw2_NumberTexts.j0] at h, fun _ _ _ _ _ _ r h => by simp [groupcontrollaw2_NumberTexts.l0] at h, fun _ _ _ r h => by simp [groupcontrollaw2_NumberTexts.l1] at h⟩
  | k + 1 => by
    obtain ⟨ih0, ih1, ih2⟩ := groupcontrollaw2_NumberTexts.mono_l k
    refine ⟨?_, ?_, ?_⟩
    · intro y0 y1 y2 y3
      unfold groupcontrollaw2_NumberTexts.j0
      repeat' first
      | (with_reducible exact ih0 _ _ _ _)
      | (with_reducible exact ih1 _ _ _ _ _ _)
      | (with_reducible exact ih2 _ _ _)
      | (with_reducible exact groupcontrollaw2_sane.mono _)
      | (with_reducible exact groupcontrollaw2_text.mono _ _ _)
      | (with_reducible exact groupcontrolmade_Dice_Next.mono _ _ _ _)
      | (with_reducible exact groupcontrolref2_Format.mono _ _)
      | (with_reducible exact groupcontrolref2_FormatHundredths.mono _ _)
      | (with_reducible exact groupcontrolref2_Parse.mono _ _)
      | (with_reducible exact number_Hundredths.mono _ _)
      | (with_reducible exact number_Parse.mono _ _)
      | (with_reducible exact LeO.refl _)
      | (with_reducible exact LeO.none _)
      | (with_reducible refine LeO.ite ?_ ?_)
      | (with_reducible refine LeO.bind ?_ (fun _ => ?_))
      | exact ih0 _ _ _ _
      | exact ih1 _ _ _ _ _ _
      | exact ih2 _ _ _
      | exact groupcontrollaw2_sane.mono _
      | exact groupcontrollaw2_text.mono _ _ _
      | exact groupcontrolmade_Dice_Next.mono _ _ _ _
      | exact groupcontrolref2_Format.mono _ _
      | exact groupcontrolref2_FormatHundredths.mono _ _
      | exact groupcontrolref2_Parse.mono _ _
      | exact number_Hundredths.mono _ _
      | exact number_Parse.mono _ _
      | exact LeO.none _
      | refine LeO.ite ?_ ?_
      | refine LeO.bind ?_ (fun _ => ?_)
    · intro y0 y1 y2 y3 y4 y5
      unfold groupcontrollaw2_NumberTexts.l0
      repeat' first
      | (with_reducible exact ih0 _ _ _ _)
      | (with_reducible exact ih1 _ _ _ _ _ _)
      | (with_reducible exact ih2 _ _ _)
      | (with_reducible exact groupcontrollaw2_sane.mono _)
      | (with_reducible exact groupcontrollaw2_text.mono _ _ _)
      | (with_reducible exact groupcontrolmade_Dice_Next.mono _ _ _ _)
      | (with_reducible exact groupcontrolref2_Format.mono _ _)
      | (with_reducible exact groupcontrolref2_FormatHundredths.mono _ _)
      | (with_reducible exact groupcontrolref2_Parse.mono _ _)
      | (with_reducible exact number_Hundredths.mono _ _)
      | (with_reducible exact number_Parse.mono _ _)
      | (with_reducible exact LeO.refl _)
      | (with_reducible exact LeO.none _)
      | (with_reducible refine LeO.ite ?_ ?_)
      | (with_reducible refine LeO.bind ?_ (fun _ => ?_))
      | exact ih0 _ _ _ _
      | exact ih1 _ _ _ _ _ _
      | exact ih2 _ _ _
      | exact groupcontrollaw2_sane.mono _
      | exact groupcontrollaw2_text.mono _ _ _
      | exact groupcontrolmade_Dice_Next.mono _ _ _ _
      | exact groupcontrolref2_Format.mono _ _
      | exact groupcontrolref2_FormatHundredths.mono _ _
      | exact groupcontrolref2_Parse.mono _ _
      | exact number_Hundredths.mono _ _
      | exact number_Parse.mono _ _
      | exact LeO.none _
      | refine LeO.ite ?_ ?_
      | refine LeO.bind ?_ (fun _ => ?_)
    · intro y0 y1 y2
      unfold groupcontrollaw2_NumberTexts.l1
      repeat' first
      | (with_reducible exact ih0 _ _ _ _)
      | (with_reducible exact ih1 _ _ _ _ _ _)
      | (with_reducible exact ih2 _ _ _)
      | (with_reducible exact groupcontrollaw2_sane.mono _)
      | (with_reducible exact groupcontrollaw2_text.mono _ _ _)
      | (with_reducible exact groupcontrolmade_Dice_Next.mono _ _ _ _)
      | (with_reducible exact groupcontrolref2_Format.mono _ _)
      | (with_reducible exact groupcontrolref2_FormatHundredths.mono _ _)
      | (with_reducible exact groupcontrolref2_Parse.mono _ _)
      | (with_reducible exact number_Hundredths.mono _ _)
      | (with_reducible exact number_Parse.mono _ _)
      | (with_reducible exact LeO.refl _)
      | (with_reducible exact LeO.none _)
      | (with_reducible refine LeO.ite ?_ ?_)
      | (with_reducible refine LeO.bind ?_ (fun _ => ?_))
      | exact ih0 _ _ _ _
      | exact ih1 _ _ _ _ _ _
      | exact ih2 _ _ _
      | exact groupcontrollaw2_sane.mono _
      | exact groupcontrollaw2_text.mono _ _ _
      | exact groupcontrolmade_Dice_Next.mono _ _ _ _
      | exact groupcontrolref2_Format.mono _ _
      | exact groupcontrolref2_FormatHundredths.mono _ _
      | exact groupcontrolref2_Parse.mono _ _
      | exact number_Hundredths.mono _ _
      | exact number_Parse.mono _ _
      | exact LeO.none _
      | refine LeO.ite ?_ ?_
      | refine LeO.bind ?_ (fun _ => ?_)
theorem groupcontrollaw2_NumberTexts.mono : ∀ a0 a1 a2 k, LeO (groupcontrollaw2_NumberTexts.f k a0 a1 a2) (groupcontrollaw2_NumberTexts.f (k + 1) a0 a1 a2) := by
  intro a0 a1 a2 k
  obtain ⟨ih0, ih1, ih2⟩ := groupcontrollaw2_NumberTexts.mono_l k
  unfold groupcontrollaw2_NumberTexts.f
  repeat' first
      | (with_reducible exact ih0 _ _ _ _)
      | (with_reducible exact ih1 _ _ _ _ _ _)
      | (with_reducible exact ih2 _ _ _)
      | (with_reducible exact groupcontrollaw2_sane.mono _)
      | (with_reducible exact groupcontrollaw2_text.mono _ _ _)
      | (with_reducible exact groupcontrolmade_Dice_Next.mono _ _ _ _)
      | (with_reducible exact groupcontrolref2_Format.mono _ _)
      | (with_reducible exact groupcontrolref2_FormatHundredths.mono _ _)
      | (with_reducible exact groupcontrolref2_Parse.mono _ _)
      | (with_reducible exact number_Hundredths.mono _ _)
      | (with_reducible exact number_Parse.mono _ _)
      | (with_reducible exact LeO.refl _)
      | (with_reducible exact LeO.none _)
      | (with_reducible refine LeO.ite ?_ ?_)
      | (with_reducible refine LeO.bind ?_ (fun _ => ?_))
      | exact ih0 _ _ _ _
      | exact ih1 _ _ _ _ _ _
      | exact ih2 _ _ _
      | exact groupcontrollaw2_sane.mono _
      | exact groupcontrollaw2_text.mono _ _ _
      | exact groupcontrolmade_Dice_Next.mono _ _ _ _
      | exact groupcontrolref2_Format.mono _ _
      | exact groupcontrolref2_FormatHundredths.mono _ _
      | exact groupcontrolref2_Parse.mono _ _
      | exact number_Hundredths.mono _ _
      | exact number_Parse.mono _ _
      | exact LeO.none _
      | refine LeO.ite ?_ ?_
      | refine LeO.bind ?_ (fun _ => ?_)
set_option maxHeartbeats 8000000 in
set_option maxRecDepth 100000 in
theorem groupcontrollaw2_NumberTexts.calls (k : Nat) (a0 : ByteArray) (a1 : Int) (A2 : Option Addr) (c2 : Nat) (l2 : List Int) (r : Bool) (w : World) (hr2 : Kd.C (Kd.int .i64) w A2 l2.length l2) (hc2 : l2.length ≤ c2) (hLaid : LaidW w) (h : groupcontrollaw2_NumberTexts.f k a0 a1 l2 = some r) :
    Calls Tryd.prog 4 #[.string a0, .int .i64 a1, .slice A2 l2.length c2] w fun e w' => e = .returned (.bool r) ∧ Below w.heap.size w w' := by
  have HLAID := Aside0.mk hLaid
  clear hLaid
  have HR2 := Aside0.mk hr2
  have HC2 := Aside0.mk hc2
  clear hr2 hc2
  have HB := Aside0.mk (Below.refl w.heap.size w)
  have H : (if (a0.size : Int) > 300 then (groupcontrollaw2_NumberTexts.j0 k a0 a1 l2 true) else ((groupcontrolmade_Light.f l2).bind fun t166 => (groupcontrollaw2_NumberTexts.j0 k a0 a1 l2 (!t166)))) = some r := h
  clear h
  have HC4 := Aside0.mk H
  clear H
  go_enter Tryd.func4, Tryd.ntmps4
  go_upto_region 1 with (fail)
  go_cut [35] (fun v35 wc => ∃ (kq : Nat) (x35_3 : Bool), v35 = .bool x35_3 ∧ Aside0 (groupcontrollaw2_NumberTexts.j0 kq a0 a1 l2 x35_3 = some r) ∧ Aside0 (kq ≤ k) ∧ Aside0 (Below w.heap.size w wc))
  case first =>
    have H := HC4.out
    clear HC4
    by_cases c5 : (a0.size : Int) > 300
    · rw [if_pos c5] at H
      have c5b0 : decide (300 < (a0.size : Int)) = true := decide_eq_true c5
      have c5b1 : decide (300 < a0.size) = true := decide_eq_true (by omega)
      clear c5
      (first | rw [c5b0] | (simp only [i64_w, i32_w]; rw [c5b0]) | skip)
      have H' := Aside0.mk H
      clear H
      go_wp2
      go_meet
      case rel => exact ⟨_, (true), (by first | rfl | (simp; done) | (simp [*]; done)), H', ⟨by first | omega | exact Nat.le_refl _⟩, ⟨by repeat (first | (with_reducible first | exact HB.out | apply below_alloc | apply pw_below_drewN | apply below_drew1) | exact HB.out)⟩⟩
    · rw [if_neg c5] at H
      have c5b0 : decide (300 < (a0.size : Int)) = false := decide_eq_false c5
      have c5b1 : decide (300 < a0.size) = false := decide_eq_false (by omega)
      clear c5
      (first | rw [c5b0] | (simp only [i64_w, i32_w]; rw [c5b0]) | skip)
      replace H := Option.bind_eq_some_iff.mp H
      obtain ⟨t166, A60, H⟩ := H
      replace H : (groupcontrollaw2_NumberTexts.j0 k a0 a1 l2 (!t166)) = some r := H
      have A6 := Aside0.mk A60
      clear A60
      have H' := Aside0.mk H
      clear H
      go_wp2_with (first | (go_at_call 10; (with_reducible refine (groupcontrolmade_Light.calls _ _ l2 t166 _ ?side1 ?side2 A6.out).mono ?_); (case side1 => repeat (first | exact (Kd.C_below HR2.out HB.out) | (with_reducible refine Kd.C_alloc ?_ _) | (with_reducible refine Kd.C_drewN ?_ _) | (with_reducible refine Kd.C_drew ?_))); (case side2 => exact HC2.out); rintro e w' ⟨rfl, ⟨nd, rfl⟩⟩))
      go_meet
      case rel => exact ⟨_, (!t166), (by first | rfl | (simp; done) | (simp [*]; done)), H', ⟨by first | omega | exact Nat.le_refl _⟩, ⟨by repeat (first | (with_reducible first | exact HB.out | apply below_alloc | apply pw_below_drewN | apply below_drew1) | exact HB.out)⟩⟩
  case rest =>
    clear HC4
    try clear c2
    try clear p2
    try clear c4
    try clear c5
    try clear c5b0
    try clear c5b1
    obtain ⟨kq, x35_3, rfl, HA, HJ3, HB⟩ := hcut
    cases kq with
    | zero => exact absurd HA.out (by simp [groupcontrollaw2_NumberTexts.j0])
    | succ kj3 =>
      have H := HA.out
      clear HA
      simp only [groupcontrollaw2_NumberTexts.j0] at H
      by_cases c7 : x35_3 = true
      · subst c7
        have H1 : ((groupcontrollaw2_sane.f kj3).bind fun t167 => (some t167)) = some r := by rw [if_pos rfl] at H; exact H
        clear H
        have H := H1
        clear H1
        replace H := Option.bind_eq_some_iff.mp H
        obtain ⟨t167, A80, H⟩ := H
        replace H : (some t167) = some r := H
        have A8 := Aside0.mk A80
        clear A80
        obtain rfl := Option.some.inj H
        go_wp2_with (first | ((with_reducible refine gate_callee (f := 9) rfl ?_); refine goesL_ (some 36) rfl rfl Tryd.func9 (by kernel_rfl) rfl #[] rfl (by (try simp only [List.map_toArray, List.map_cons, List.map_nil]); first | done | rfl | (simp only [List.length_drop, List.length_take]; rfl)) ?_; (with_reducible refine (groupcontrollaw2_sane.calls kj3  t167 _ A8.out).mono ?_); rintro e w9 ⟨rfl, hb⟩; refine ⟨_, rfl, ?_⟩; have n0_ := Aside0.mk (below_step (by repeat (first | (with_reducible first | exact HB.out | apply below_alloc | apply pw_below_drewN | apply below_drew1) | exact HB.out)) hb); clear HB; have HB := n0_; clear n0_; (try clear hb); (try clear hb2); (try clear hk); (try clear hi)))
        go_ret
        exact ⟨by first | rfl | (simp [errW_none, errW_some] <;> rfl) | (simp [*, errW_none, errW_some] <;> rfl), by repeat (first | (with_reducible first | exact HB.out | apply below_alloc | apply pw_below_drewN | apply below_drew1) | exact HB.out)⟩
      · replace c7 := Bool.eq_false_iff.mpr c7
        subst c7
        have H1 : ((groupcontrolmade_Roll.f l2).bind fun bt168 => ((groupcontrollaw2_text.f kj3 bt168.1 bt168.2).bind fun bt171 => ((groupcontrollaw2_text.f kj3 bt168.1 bt171.2).bind fun bt173 => ((groupcontrollaw2_text.f kj3 bt168.1 bt173.2).bind fun bt175 => (if 3 + bt175.1.size ≤ 9223372036854775807 then ((some (([a0, bt171.1, bt173.1, (⟨#[57, 57, 46]⟩ : ByteArray) ++ bt175.1] : List ByteArray) : List ByteArray)).bind fun y177 => (groupcontrollaw2_NumberTexts.l0 kj3 a1 y177 (y177.length : Int) 0 bt168.1 bt175.2)) else (none)))))) = some r := by rw [if_neg (show ¬ (false = true) by decide)] at H; exact H
        clear H
        have H := H1
        clear H1
        replace H := Option.bind_eq_some_iff.mp H
        obtain ⟨⟨t168, t169⟩, A100, H⟩ := H
        replace H : ((groupcontrollaw2_text.f kj3 t168 t169).bind fun bt171 => ((groupcontrollaw2_text.f kj3 t168 bt171.2).bind fun bt173 => ((groupcontrollaw2_text.f kj3 t168 bt173.2).bind fun bt175 => (if 3 + bt175.1.size ≤ 9223372036854775807 then ((some (([a0, bt171.1, bt173.1, (⟨#[57, 57, 46]⟩ : ByteArray) ++ bt175.1] : List ByteArray) : List ByteArray)).bind fun y177 => (groupcontrollaw2_NumberTexts.l0 kj3 a1 y177 (y177.length : Int) 0 t168 bt175.2)) else (none))))) = some r := H
        have A10 := Aside0.mk A100
        clear A100
        replace H := Option.bind_eq_some_iff.mp H
        obtain ⟨⟨t171, t172⟩, A110, H⟩ := H
        replace H : ((groupcontrollaw2_text.f kj3 t168 t172).bind fun bt173 => ((groupcontrollaw2_text.f kj3 t168 bt173.2).bind fun bt175 => (if 3 + bt175.1.size ≤ 9223372036854775807 then ((some (([a0, t171, bt173.1, (⟨#[57, 57, 46]⟩ : ByteArray) ++ bt175.1] : List ByteArray) : List ByteArray)).bind fun y177 => (groupcontrollaw2_NumberTexts.l0 kj3 a1 y177 (y177.length : Int) 0 t168 bt175.2)) else (none)))) = some r := H
        have A11 := Aside0.mk A110
        clear A110
        replace H := Option.bind_eq_some_iff.mp H
        obtain ⟨⟨t173, t174⟩, A120, H⟩ := H
        replace H : ((groupcontrollaw2_text.f kj3 t168 t174).bind fun bt175 => (if 3 + bt175.1.size ≤ 9223372036854775807 then ((some (([a0, t171, t173, (⟨#[57, 57, 46]⟩ : ByteArray) ++ bt175.1] : List ByteArray) : List ByteArray)).bind fun y177 => (groupcontrollaw2_NumberTexts.l0 kj3 a1 y177 (y177.length : Int) 0 t168 bt175.2)) else (none))) = some r := H
        have A12 := Aside0.mk A120
        clear A120
        replace H := Option.bind_eq_some_iff.mp H
        obtain ⟨⟨t175, t176⟩, A130, H⟩ := H
        replace H : (if 3 + t175.size ≤ 9223372036854775807 then ((some (([a0, t171, t173, (⟨#[57, 57, 46]⟩ : ByteArray) ++ t175] : List ByteArray) : List ByteArray)).bind fun y177 => (groupcontrollaw2_NumberTexts.l0 kj3 a1 y177 (y177.length : Int) 0 t168 t176)) else (none)) = some r := H
        have A13 := Aside0.mk A130
        clear A130
        by_cases c14 : 3 + t175.size ≤ 9223372036854775807
        · rw [if_pos c14] at H
          have c14b0 := eq_true c14
          have c14b1 : decide (3 + t175.size ≤ 9223372036854775807) = true := decide_eq_true c14
          try have c14b2 : (9223372036854775807 < 3 + t175.size) = False := eq_false (Nat.not_lt.2 c14)
          obtain ⟨y177, hy177⟩ : ∃ y_ : List ByteArray, y_ = (([a0, t171, t173, (⟨#[57, 57, 46]⟩ : ByteArray) ++ t175] : List ByteArray)) := ⟨_, rfl⟩
          replace H : (groupcontrollaw2_NumberTexts.l0 kj3 a1 y177 (y177.length : Int) 0 t168 t176) = some r := by first | (rw [hy177]; with_reducible exact H) | (have H2_ := (Option.bind_some _ _).symm.trans H; rw [hy177]; with_reducible exact H2_) | (have H2_ := (Option.bind_some _ _).symm.trans H; with_reducible exact H2_) | with_reducible exact H | (rw [hy177]; exact H) | exact H
          have Ny177 := Aside0.mk hy177
          clear hy177
          have H' := Aside0.mk H
          clear H
          go_wp2_with (first | ((with_reducible refine gate_callee (f := 11) rfl ?_); refine goesL_ (some 38) rfl rfl Tryd.func11 (by kernel_rfl) rfl #[.slice A2 l2.length c2] rfl (by (try simp only [List.map_toArray, List.map_cons, List.map_nil]); first | done | rfl | (simp only [List.length_drop, List.length_take]; rfl)) ?_; (with_reducible refine (groupcontrolmade_Roll.calls _ _ l2 t168 t169 w _ ?side1 ?side2 ?side3 A10.out).mono ?_); (case side1 => repeat (first | (with_reducible first | exact HB.out | apply below_alloc | apply pw_below_drewN | apply below_drew1) | exact HB.out)); (case side2 => exact HR2.out); (case side3 => exact HC2.out); rintro e w15 ⟨g170, rfl, hi, hb, hb2⟩; refine ⟨_, rfl, ?_⟩; have n0_ := Aside0.mk (hb); have n1_ := Aside0.mk (hi); clear HB; have HB := n0_; have HI170 := n1_; clear n0_ n1_; (try clear hb); (try clear hb2); (try clear hk); (try clear hi)) | ((with_reducible refine gate_callee (f := 12) rfl ?_); refine goesL_ (some 41) rfl rfl Tryd.func12 (by kernel_rfl) rfl #[.pointer (some ⟨g170, 0, none⟩)] rfl (by (try simp only [List.map_toArray, List.map_cons, List.map_nil]); first | done | rfl | (simp only [List.length_drop, List.length_take]; rfl)) ?_; (with_reducible refine (groupcontrollaw2_text.calls kj3 g170 t168 t169 t171 t172 w _ ?side1 ?side2 A11.out).mono ?_); (case side1 => repeat (first | (with_reducible first | exact HI170.out | apply IsS46.alloc | apply IsS46.drewN | apply IsS46.drew | apply IsS46.set_1) | exact HI170.out)); (case side2 => repeat (first | (with_reducible first | exact HB.out | apply below_alloc | apply pw_below_drewN | apply below_drew1 | refine below_set ?_ (IsS46.ge HI170.out)) | exact HB.out)); rintro e w16 ⟨rfl, hi, hb, hk⟩; refine ⟨_, rfl, ?_⟩; have n0_ := Aside0.mk (hb); have n1_ := Aside0.mk (hi); clear HB; clear HI170; have HB := n0_; have HI170 := n1_; clear n0_ n1_; (try clear hb); (try clear hb2); (try clear hk); (try clear hi)) | ((with_reducible refine gate_callee (f := 12) rfl ?_); refine goesL_ (some 43) rfl rfl Tryd.func12 (by kernel_rfl) rfl #[.pointer (some ⟨g170, 0, none⟩)] rfl (by (try simp only [List.map_toArray, List.map_cons, List.map_nil]); first | done | rfl | (simp only [List.length_drop, List.length_take]; rfl)) ?_; (with_reducible refine (groupcontrollaw2_text.calls kj3 g170 t168 t172 t173 t174 w _ ?side1 ?side2 A12.out).mono ?_); (case side1 => repeat (first | (with_reducible first | exact HI170.out | apply IsS46.alloc | apply IsS46.drewN | apply IsS46.drew | apply IsS46.set_1) | exact HI170.out)); (case side2 => repeat (first | (with_reducible first | exact HB.out | apply below_alloc | apply pw_below_drewN | apply below_drew1 | refine below_set ?_ (IsS46.ge HI170.out)) | exact HB.out)); rintro e w17 ⟨rfl, hi, hb, hk⟩; refine ⟨_, rfl, ?_⟩; have n0_ := Aside0.mk (hb); have n1_ := Aside0.mk (hi); clear HB; clear HI170; have HB := n0_; have HI170 := n1_; clear n0_ n1_; (try clear hb); (try clear hb2); (try clear hk); (try clear hi)) | ((with_reducible refine gate_callee (f := 12) rfl ?_); refine goesL_ (some 45) rfl rfl Tryd.func12 (by kernel_rfl) rfl #[.pointer (some ⟨g170, 0, none⟩)] rfl (by (try simp only [List.map_toArray, List.map_cons, List.map_nil]); first | done | rfl | (simp only [List.length_drop, List.length_take]; rfl)) ?_; (with_reducible refine (groupcontrollaw2_text.calls kj3 g170 t168 t174 t175 t176 w _ ?side1 ?side2 A13.out).mono ?_); (case side1 => repeat (first | (with_reducible first | exact HI170.out | apply IsS46.alloc | apply IsS46.drewN | apply IsS46.drew | apply IsS46.set_1) | exact HI170.out)); (case side2 => repeat (first | (with_reducible first | exact HB.out | apply below_alloc | apply pw_below_drewN | apply below_drew1 | refine below_set ?_ (IsS46.ge HI170.out)) | exact HB.out)); rintro e w18 ⟨rfl, hi, hb, hk⟩; refine ⟨_, rfl, ?_⟩; have n0_ := Aside0.mk (hb); have n1_ := Aside0.mk (hi); clear HB; clear HI170; have HB := n0_; have HI170 := n1_; clear n0_ n1_; (try clear hb); (try clear hb2); (try clear hk); (try clear hi)) | ((with_reducible refine gate_dst (N := 47) rfl ?_); refine Kd.R_lit Kd.string _ 9 ?hg (N := 47) ?hd (xs := ([a0, t171, t173, (⟨#[57, 57, 46]⟩ : ByteArray) ++ t175] : List ByteArray)) (inner := [.string a0, .string t171, .string t173, .string ((⟨#[57, 57, 46]⟩ : ByteArray) ++ t175)]) (ok := fun _ => True) (okp := fun _ => True) ?hr ?hp (fun _ hk => hk) trivial (Below.refl _ _) (Nat.le_refl _) (by simp) ?_; (case hd => rfl); (case hg => rfl); (case hr => first | (go_simp; done) | (go_simp; rfl)); (case hp => exact (Reps.one (show Kd.M Kd.string _ _ _ a0 [.string a0] from rfl) (Reps.one (show Kd.M Kd.string _ _ _ t171 [.string t171] from rfl) (Reps.one (show Kd.M Kd.string _ _ _ t173 [.string t173] from rfl) (Reps.one (show Kd.M Kd.string _ _ _ ((⟨#[57, 57, 46]⟩ : ByteArray) ++ t175) [.string ((⟨#[57, 57, 46]⟩ : ByteArray) ++ t175)] from rfl) (Reps.none _ _)))))); intro v178 w19 ho20 hb hg_ hnew_; clear hg_ hnew_; (first | rw [← Ny177.out] at ho20 | (simp only [Int.reduceToNat] at ho20; rw [← Ny177.out] at ho20)); have n0_ := Aside0.mk (Kd.R_lower ho20 (below_size (by repeat (first | (with_reducible first | exact HB.out | apply below_alloc | apply pw_below_drewN | apply below_drew1 | refine below_set ?_ (IsS46.ge HI170.out)) | exact HB.out)))); have n1_ := Aside0.mk (IsS46.below (by repeat (first | (with_reducible first | exact HI170.out | apply IsS46.alloc | apply IsS46.drewN | apply IsS46.drew | apply IsS46.set_1) | exact HI170.out)) hb); have n2_ := Aside0.mk (below_step (by repeat (first | (with_reducible first | exact HB.out | apply below_alloc | apply pw_below_drewN | apply below_drew1 | refine below_set ?_ (IsS46.ge HI170.out)) | exact HB.out)) hb); clear HI170; clear HB; have HO179 := n0_; have HI170 := n1_; have HB := n2_; clear n0_ n1_ n2_; clear hb ho20; obtain ⟨Ao21, co21, eo21⟩ := Kd.R_slice HO179.out; subst eo21))
          go_loopg [49] kj3 (fun kq v49 w' => ∃ (x49_2 : Int), v49 = .int .i64 x49_2 ∧ Aside0 (groupcontrollaw2_NumberTexts.l0 kq a1 y177 (y177.length : Int) x49_2 t168 t176 = some r) ∧ Aside0 (kq ≤ kj3) ∧ Aside0 (Kd.R Kd.string 9 w' w.heap.size (fun _ => True) (.slice Ao21 y177.length co21) y177) ∧ Aside0 (IsS46 w w' g170 t168 t176) ∧ Aside0 (Below w.heap.size w w'))
          case atStart => exact ⟨(0), (by first | rfl | (simp; done) | (simp [*]; done)), H', ⟨Nat.le_refl _⟩, ⟨by (with_reducible repeat (first | apply Kd.R_alloc | apply Kd.R_drewN | apply Kd.R_drew)); exact HO179.out⟩, ⟨by repeat (first | (with_reducible first | exact HI170.out | apply IsS46.alloc | apply IsS46.drewN | apply IsS46.drew | apply IsS46.set_1) | exact HI170.out)⟩, ⟨by repeat (first | (with_reducible first | exact HB.out | apply below_alloc | apply pw_below_drewN | apply below_drew1 | refine below_set ?_ (IsS46.ge HI170.out)) | exact HB.out)⟩⟩
          case round =>
            clear H'
            try clear c1
            try clear c2
            try clear p2
            try clear c4
            try clear c5
            try clear c5b0
            try clear c5b1
            try clear c7
            try clear c9
            try clear c11
            try clear c12
            try clear c14
            try clear c14b0
            try clear c14b1
            try clear c14b2
            try clear p2
            obtain ⟨x49_2, rfl, HA, HK2, HO_47, HI170, HB⟩ := hrel
            cases gk with
            | zero => exact absurd HA.out (by simp [groupcontrollaw2_NumberTexts.l0])
            | succ k2 =>
              have H := HA.out
              clear HA
              simp only [groupcontrollaw2_NumberTexts.l0] at H
              by_cases c22 : x49_2 < (y177.length : Int)
              · rw [if_pos c22] at H
                have c22b0 : decide (x49_2 < (y177.length : Int)) = true := decide_eq_true c22
                clear c22
                by_cases c23 : 0 ≤ x49_2
                · rw [if_pos c23] at H
                  have c23b0 : decide (0 ≤ x49_2) = true := decide_eq_true c23
                  clear c23
                  by_cases c24 : x49_2 < (y177.length : Int)
                  · rw [if_pos c24] at H
                    have c24b0 : decide (x49_2 < (y177.length : Int)) = true := decide_eq_true c24
                    clear c24
                    replace H := Option.bind_eq_some_iff.mp H
                    obtain ⟨⟨t181, t182⟩, A250, H⟩ := H
                    replace H : ((groupcontrolref2_Parse.f k2 (rdOf ByteArray.empty y177 x49_2)).bind fun bt183 => ((number_Hundredths.f k2 (rdOf ByteArray.empty y177 x49_2)).bind fun bt185 => ((groupcontrolref2_Hundredths.f (rdOf ByteArray.empty y177 x49_2)).bind fun bt187 => (if t181 = bt183.1 then (if t182 = bt183.2 then (if bt185.1 = bt187.1 then (if bt185.2 = bt187.2 then (groupcontrollaw2_NumberTexts.l0 k2 a1 y177 (y177.length : Int) (wrap64 (x49_2 + 1)) t168 t176) else (some false)) else (some false)) else (some false)) else (some false))))) = some r := H
                    have A25 := Aside0.mk A250
                    clear A250
                    replace H := Option.bind_eq_some_iff.mp H
                    obtain ⟨⟨t183, t184⟩, A260, H⟩ := H
                    replace H : ((number_Hundredths.f k2 (rdOf ByteArray.empty y177 x49_2)).bind fun bt185 => ((groupcontrolref2_Hundredths.f (rdOf ByteArray.empty y177 x49_2)).bind fun bt187 => (if t181 = t183 then (if t182 = t184 then (if bt185.1 = bt187.1 then (if bt185.2 = bt187.2 then (groupcontrollaw2_NumberTexts.l0 k2 a1 y177 (y177.length : Int) (wrap64 (x49_2 + 1)) t168 t176) else (some false)) else (some false)) else (some false)) else (some false)))) = some r := H
                    have A26 := Aside0.mk A260
                    clear A260
                    replace H := Option.bind_eq_some_iff.mp H
                    obtain ⟨⟨t185, t186⟩, A270, H⟩ := H
                    replace H : ((groupcontrolref2_Hundredths.f (rdOf ByteArray.empty y177 x49_2)).bind fun bt187 => (if t181 = t183 then (if t182 = t184 then (if t185 = bt187.1 then (if t186 = bt187.2 then (groupcontrollaw2_NumberTexts.l0 k2 a1 y177 (y177.length : Int) (wrap64 (x49_2 + 1)) t168 t176) else (some false)) else (some false)) else (some false)) else (some false))) = some r := H
                    have A27 := Aside0.mk A270
                    clear A270
                    replace H := Option.bind_eq_some_iff.mp H
                    obtain ⟨⟨t187, t188⟩, A280, H⟩ := H
                    replace H : (if t181 = t183 then (if t182 = t184 then (if t185 = t187 then (if t186 = t188 then (groupcontrollaw2_NumberTexts.l0 k2 a1 y177 (y177.length : Int) (wrap64 (x49_2 + 1)) t168 t176) else (some false)) else (some false)) else (some false)) else (some false)) = some r := H
                    have A28 := Aside0.mk A280
                    clear A280
                    by_cases c29 : t181 = t183
                    · rw [if_pos c29] at H
                      have c29b0 : (t181 == t183) = true := beq_iff_eq.mpr c29
                      have c29b1 : (t181 != t183) = false := bne_eq_false_iff_eq.mpr c29
                      clear c29
                      by_cases c30 : t182 = t184
                      · rw [if_pos c30] at H
                        have c30b0 : (t182 == t184) = true := beq_iff_eq.mpr c30
                        have c30b1 : (t182 != t184) = false := bne_eq_false_iff_eq.mpr c30
                        clear c30
                        by_cases c31 : t185 = t187
                        · rw [if_pos c31] at H
                          have c31b0 : (t185 == t187) = true := beq_iff_eq.mpr c31
                          have c31b1 : (t185 != t187) = false := bne_eq_false_iff_eq.mpr c31
                          clear c31
                          by_cases c32 : t186 = t188
                          · rw [if_pos c32] at H
                            have c32b0 : (t186 == t188) = true := beq_iff_eq.mpr c32
                            have c32b1 : (t186 != t188) = false := bne_eq_false_iff_eq.mpr c32
                            clear c32
                            have H' := Aside0.mk H
                            clear H
                            have p180 : 0 ≤ (x49_2 : Int) := of_decide_eq_true (by first | (with_reducible assumption) | assumption)
                            have q180 : x49_2 < (y177.length : Int) := of_decide_eq_true (by first | (with_reducible assumption) | assumption)
                            obtain ⟨ad180, e180, hx180_0⟩ := Kd.at_string (Kd.R_reads' HO_47.out).2.2 x49_2 p180 q180
                            cases e180
                            replace p180 := eq_true p180
                            replace q180 := eq_true q180
                            go_wp2_with (first | ((with_reducible refine gate_callee (f := 13) rfl ?_); refine goesL_ (some 55) rfl rfl Tryd.func13 (by kernel_rfl) rfl #[.string (rdOf ByteArray.empty y177 x49_2)] rfl (by (try simp only [List.map_toArray, List.map_cons, List.map_nil]); first | done | rfl | (simp only [List.length_drop, List.length_take]; rfl)) ?_; (with_reducible refine (number_Parse.calls k2 (rdOf ByteArray.empty y177 x49_2) t181 t182 _ A25.out).mono ?_); rintro e w33 ⟨rfl, hb⟩; refine ⟨_, rfl, ?_⟩; have n0_ := Aside0.mk (Kd.R_below (by (with_reducible repeat (first | apply Kd.R_alloc | apply Kd.R_drewN | apply Kd.R_drew)); exact HO_47.out) hb); have n1_ := Aside0.mk (IsS46.below (by repeat (first | (with_reducible first | exact HI170.out | apply IsS46.alloc | apply IsS46.drewN | apply IsS46.drew | apply IsS46.set_1) | exact HI170.out)) hb); have n2_ := Aside0.mk (below_step (by repeat (first | (with_reducible first | exact HB.out | apply below_alloc | apply pw_below_drewN | apply below_drew1 | refine below_set ?_ (IsS46.ge HI170.out)) | exact HB.out)) hb); clear HO_47; clear HI170; clear HB; have HO_47 := n0_; have HI170 := n1_; have HB := n2_; clear n0_ n1_ n2_; (try clear hb); (try clear hb2); (try clear hk); (try clear hi)) | ((with_reducible refine gate_callee (f := 14) rfl ?_); refine goesL_ (some 60) rfl rfl Tryd.func14 (by kernel_rfl) rfl #[.string (rdOf ByteArray.empty y177 x49_2)] rfl (by (try simp only [List.map_toArray, List.map_cons, List.map_nil]); first | done | rfl | (simp only [List.length_drop, List.length_take]; rfl)) ?_; (with_reducible refine (groupcontrolref2_Parse.calls k2 (rdOf ByteArray.empty y177 x49_2) t183 t184 _ A26.out).mono ?_); rintro e w34 ⟨rfl, hb⟩; refine ⟨_, rfl, ?_⟩; have n0_ := Aside0.mk (Kd.R_below (by (with_reducible repeat (first | apply Kd.R_alloc | apply Kd.R_drewN | apply Kd.R_drew)); exact HO_47.out) hb); have n1_ := Aside0.mk (IsS46.below (by repeat (first | (with_reducible first | exact HI170.out | apply IsS46.alloc | apply IsS46.drewN | apply IsS46.drew | apply IsS46.set_1) | exact HI170.out)) hb); have n2_ := Aside0.mk (below_step (by repeat (first | (with_reducible first | exact HB.out | apply below_alloc | apply pw_below_drewN | apply below_drew1 | refine below_set ?_ (IsS46.ge HI170.out)) | exact HB.out)) hb); clear HO_47; clear HI170; clear HB; have HO_47 := n0_; have HI170 := n1_; have HB := n2_; clear n0_ n1_ n2_; (try clear hb); (try clear hb2); (try clear hk); (try clear hi)) | ((with_reducible refine gate_callee (f := 7) rfl ?_); refine goesL_ (some 65) rfl rfl Tryd.func7 (by kernel_rfl) rfl #[.string (rdOf ByteArray.empty y177 x49_2)] rfl (by (try simp only [List.map_toArray, List.map_cons, List.map_nil]); first | done | rfl | (simp only [List.length_drop, List.length_take]; rfl)) ?_; (with_reducible refine (number_Hundredths.calls k2 (rdOf ByteArray.empty y177 x49_2) t185 t186 _ A27.out).mono ?_); rintro e w35 ⟨rfl, hb⟩; refine ⟨_, rfl, ?_⟩; have n0_ := Aside0.mk (Kd.R_below (by (with_reducible repeat (first | apply Kd.R_alloc | apply Kd.R_drewN | apply Kd.R_drew)); exact HO_47.out) hb); have n1_ := Aside0.mk (IsS46.below (by repeat (first | (with_reducible first | exact HI170.out | apply IsS46.alloc | apply IsS46.drewN | apply IsS46.drew | apply IsS46.set_1) | exact HI170.out)) hb); have n2_ := Aside0.mk (below_step (by repeat (first | (with_reducible first | exact HB.out | apply below_alloc | apply pw_below_drewN | apply below_drew1 | refine below_set ?_ (IsS46.ge HI170.out)) | exact HB.out)) hb); clear HO_47; clear HI170; clear HB; have HO_47 := n0_; have HI170 := n1_; have HB := n2_; clear n0_ n1_ n2_; (try clear hb); (try clear hb2); (try clear hk); (try clear hi)) | ((with_reducible refine gate_callee (f := 15) rfl ?_); refine goesL_ (some 70) rfl rfl Tryd.func15 (by kernel_rfl) rfl #[.string (rdOf ByteArray.empty y177 x49_2)] rfl (by (try simp only [List.map_toArray, List.map_cons, List.map_nil]); first | done | rfl | (simp only [List.length_drop, List.length_take]; rfl)) ?_; (with_reducible refine (groupcontrolref2_Hundredths.calls (rdOf ByteArray.empty y177 x49_2) t187 t188 _ A28.out).mono ?_); rintro e w36 ⟨rfl, hb⟩; refine ⟨_, rfl, ?_⟩; have n0_ := Aside0.mk (Kd.R_below (by (with_reducible repeat (first | apply Kd.R_alloc | apply Kd.R_drewN | apply Kd.R_drew)); exact HO_47.out) hb); have n1_ := Aside0.mk (IsS46.below (by repeat (first | (with_reducible first | exact HI170.out | apply IsS46.alloc | apply IsS46.drewN | apply IsS46.drew | apply IsS46.set_1) | exact HI170.out)) hb); have n2_ := Aside0.mk (below_step (by repeat (first | (with_reducible first | exact HB.out | apply below_alloc | apply pw_below_drewN | apply below_drew1 | refine below_set ?_ (IsS46.ge HI170.out)) | exact HB.out)) hb); clear HO_47; clear HI170; clear HB; have HO_47 := n0_; have HI170 := n1_; have HB := n2_; clear n0_ n1_ n2_; (try clear hb); (try clear hb2); (try clear hk); (try clear hi)))
                            go_roundg k2
                            case measure => have := HJ3.out; have := HK2.out; omega
                            case rel => exact ⟨(wrap64 (x49_2 + 1)), (by first | rfl | (simp; done) | (simp [*]; done)), H', ⟨by have := HJ3.out; have := HK2.out; omega⟩, ⟨by (with_reducible repeat (first | apply Kd.R_alloc | apply Kd.R_drewN | apply Kd.R_drew)); exact HO_47.out⟩, ⟨by repeat (first | (with_reducible first | exact HI170.out | apply IsS46.alloc | apply IsS46.drewN | apply IsS46.drew | apply IsS46.set_1) | exact HI170.out)⟩, ⟨by repeat (first | (with_reducible first | exact HB.out | apply below_alloc | apply pw_below_drewN | apply below_drew1 | refine below_set ?_ (IsS46.ge HI170.out)) | exact HB.out)⟩⟩
                          · rw [if_neg c32] at H
                            have c32b0 : (t186 == t188) = false := beq_eq_false_iff_ne.mpr c32
                            have c32b1 : (t186 != t188) = true := bne_iff_ne.mpr c32
                            obtain rfl := Option.some.inj H
                            have p180 : 0 ≤ (x49_2 : Int) := of_decide_eq_true (by first | (with_reducible assumption) | assumption)
                            have q180 : x49_2 < (y177.length : Int) := of_decide_eq_true (by first | (with_reducible assumption) | assumption)
                            obtain ⟨ad180, e180, hx180_0⟩ := Kd.at_string (Kd.R_reads' HO_47.out).2.2 x49_2 p180 q180
                            cases e180
                            replace p180 := eq_true p180
                            replace q180 := eq_true q180
                            go_wp2_with (first | ((with_reducible refine gate_callee (f := 13) rfl ?_); refine goesL_ (some 55) rfl rfl Tryd.func13 (by kernel_rfl) rfl #[.string (rdOf ByteArray.empty y177 x49_2)] rfl (by (try simp only [List.map_toArray, List.map_cons, List.map_nil]); first | done | rfl | (simp only [List.length_drop, List.length_take]; rfl)) ?_; (with_reducible refine (number_Parse.calls k2 (rdOf ByteArray.empty y177 x49_2) t181 t182 _ A25.out).mono ?_); rintro e w37 ⟨rfl, hb⟩; refine ⟨_, rfl, ?_⟩; have n0_ := Aside0.mk (Kd.R_below (by (with_reducible repeat (first | apply Kd.R_alloc | apply Kd.R_drewN | apply Kd.R_drew)); exact HO_47.out) hb); have n1_ := Aside0.mk (IsS46.below (by repeat (first | (with_reducible first | exact HI170.out | apply IsS46.alloc | apply IsS46.drewN | apply IsS46.drew | apply IsS46.set_1) | exact HI170.out)) hb); have n2_ := Aside0.mk (below_step (by repeat (first | (with_reducible first | exact HB.out | apply below_alloc | apply pw_below_drewN | apply below_drew1 | refine below_set ?_ (IsS46.ge HI170.out)) | exact HB.out)) hb); clear HO_47; clear HI170; clear HB; have HO_47 := n0_; have HI170 := n1_; have HB := n2_; clear n0_ n1_ n2_; (try clear hb); (try clear hb2); (try clear hk); (try clear hi)) | ((with_reducible refine gate_callee (f := 14) rfl ?_); refine goesL_ (some 60) rfl rfl Tryd.func14 (by kernel_rfl) rfl #[.string (rdOf ByteArray.empty y177 x49_2)] rfl (by (try simp only [List.map_toArray, List.map_cons, List.map_nil]); first | done | rfl | (simp only [List.length_drop, List.length_take]; rfl)) ?_; (with_reducible refine (groupcontrolref2_Parse.calls k2 (rdOf ByteArray.empty y177 x49_2) t183 t184 _ A26.out).mono ?_); rintro e w38 ⟨rfl, hb⟩; refine ⟨_, rfl, ?_⟩; have n0_ := Aside0.mk (Kd.R_below (by (with_reducible repeat (first | apply Kd.R_alloc | apply Kd.R_drewN | apply Kd.R_drew)); exact HO_47.out) hb); have n1_ := Aside0.mk (IsS46.below (by repeat (first | (with_reducible first | exact HI170.out | apply IsS46.alloc | apply IsS46.drewN | apply IsS46.drew | apply IsS46.set_1) | exact HI170.out)) hb); have n2_ := Aside0.mk (below_step (by repeat (first | (with_reducible first | exact HB.out | apply below_alloc | apply pw_below_drewN | apply below_drew1 | refine below_set ?_ (IsS46.ge HI170.out)) | exact HB.out)) hb); clear HO_47; clear HI170; clear HB; have HO_47 := n0_; have HI170 := n1_; have HB := n2_; clear n0_ n1_ n2_; (try clear hb); (try clear hb2); (try clear hk); (try clear hi)) | ((with_reducible refine gate_callee (f := 7) rfl ?_); refine goesL_ (some 65) rfl rfl Tryd.func7 (by kernel_rfl) rfl #[.string (rdOf ByteArray.empty y177 x49_2)] rfl (by (try simp only [List.map_toArray, List.map_cons, List.map_nil]); first | done | rfl | (simp only [List.length_drop, List.length_take]; rfl)) ?_; (with_reducible refine (number_Hundredths.calls k2 (rdOf ByteArray.empty y177 x49_2) t185 t186 _ A27.out).mono ?_); rintro e w39 ⟨rfl, hb⟩; refine ⟨_, rfl, ?_⟩; have n0_ := Aside0.mk (Kd.R_below (by (with_reducible repeat (first | apply Kd.R_alloc | apply Kd.R_drewN | apply Kd.R_drew)); exact HO_47.out) hb); have n1_ := Aside0.mk (IsS46.below (by repeat (first | (with_reducible first | exact HI170.out | apply IsS46.alloc | apply IsS46.drewN | apply IsS46.drew | apply IsS46.set_1) | exact HI170.out)) hb); have n2_ := Aside0.mk (below_step (by repeat (first | (with_reducible first | exact HB.out | apply below_alloc | apply pw_below_drewN | apply below_drew1 | refine below_set ?_ (IsS46.ge HI170.out)) | exact HB.out)) hb); clear HO_47; clear HI170; clear HB; have HO_47 := n0_; have HI170 := n1_; have HB := n2_; clear n0_ n1_ n2_; (try clear hb); (try clear hb2); (try clear hk); (try clear hi)) | ((with_reducible refine gate_callee (f := 15) rfl ?_); refine goesL_ (some 70) rfl rfl Tryd.func15 (by kernel_rfl) rfl #[.string (rdOf ByteArray.empty y177 x49_2)] rfl (by (try simp only [List.map_toArray, List.map_cons, List.map_nil]); first | done | rfl | (simp only [List.length_drop, List.length_take]; rfl)) ?_; (with_reducible refine (groupcontrolref2_Hundredths.calls (rdOf ByteArray.empty y177 x49_2) t187 t188 _ A28.out).mono ?_); rintro e w40 ⟨rfl, hb⟩; refine ⟨_, rfl, ?_⟩; have n0_ := Aside0.mk (Kd.R_below (by (with_reducible repeat (first | apply Kd.R_alloc | apply Kd.R_drewN | apply Kd.R_drew)); exact HO_47.out) hb); have n1_ := Aside0.mk (IsS46.below (by repeat (first | (with_reducible first | exact HI170.out | apply IsS46.alloc | apply IsS46.drewN | apply IsS46.drew | apply IsS46.set_1) | exact HI170.out)) hb); have n2_ := Aside0.mk (below_step (by repeat (first | (with_reducible first | exact HB.out | apply below_alloc | apply pw_below_drewN | apply below_drew1 | refine below_set ?_ (IsS46.ge HI170.out)) | exact HB.out)) hb); clear HO_47; clear HI170; clear HB; have HO_47 := n0_; have HI170 := n1_; have HB := n2_; clear n0_ n1_ n2_; (try clear hb); (try clear hb2); (try clear hk); (try clear hi)))
                            go_ret
                            exact ⟨by first | rfl | (simp [errW_none, errW_some] <;> rfl) | (simp [*, errW_none, errW_some] <;> rfl), by repeat (first | (with_reducible first | exact HB.out | apply below_alloc | apply pw_below_drewN | apply below_drew1 | refine below_set ?_ (IsS46.ge HI170.out)) | exact HB.out)⟩
                        · rw [if_neg c31] at H
                          have c31b0 : (t185 == t187) = false := beq_eq_false_iff_ne.mpr c31
                          have c31b1 : (t185 != t187) = true := bne_iff_ne.mpr c31
                          obtain rfl := Option.some.inj H
                          have p180 : 0 ≤ (x49_2 : Int) := of_decide_eq_true (by first | (with_reducible assumption) | assumption)
                          have q180 : x49_2 < (y177.length : Int) := of_decide_eq_true (by first | (with_reducible assumption) | assumption)
                          obtain ⟨ad180, e180, hx180_0⟩ := Kd.at_string (Kd.R_reads' HO_47.out).2.2 x49_2 p180 q180
                          cases e180
                          replace p180 := eq_true p180
                          replace q180 := eq_true q180
                          go_wp2_with (first | ((with_reducible refine gate_callee (f := 13) rfl ?_); refine goesL_ (some 55) rfl rfl Tryd.func13 (by kernel_rfl) rfl #[.string (rdOf ByteArray.empty y177 x49_2)] rfl (by (try simp only [List.map_toArray, List.map_cons, List.map_nil]); first | done | rfl | (simp only [List.length_drop, List.length_take]; rfl)) ?_; (with_reducible refine (number_Parse.calls k2 (rdOf ByteArray.empty y177 x49_2) t181 t182 _ A25.out).mono ?_); rintro e w41 ⟨rfl, hb⟩; refine ⟨_, rfl, ?_⟩; have n0_ := Aside0.mk (Kd.R_below (by (with_reducible repeat (first | apply Kd.R_alloc | apply Kd.R_drewN | apply Kd.R_drew)); exact HO_47.out) hb); have n1_ := Aside0.mk (IsS46.below (by repeat (first | (with_reducible first | exact HI170.out | apply IsS46.alloc | apply IsS46.drewN | apply IsS46.drew | apply IsS46.set_1) | exact HI170.out)) hb); have n2_ := Aside0.mk (below_step (by repeat (first | (with_reducible first | exact HB.out | apply below_alloc | apply pw_below_drewN | apply below_drew1 | refine below_set ?_ (IsS46.ge HI170.out)) | exact HB.out)) hb); clear HO_47; clear HI170; clear HB; have HO_47 := n0_; have HI170 := n1_; have HB := n2_; clear n0_ n1_ n2_; (try clear hb); (try clear hb2); (try clear hk); (try clear hi)) | ((with_reducible refine gate_callee (f := 14) rfl ?_); refine goesL_ (some 60) rfl rfl Tryd.func14 (by kernel_rfl) rfl #[.string (rdOf ByteArray.empty y177 x49_2)] rfl (by (try simp only [List.map_toArray, List.map_cons, List.map_nil]); first | done | rfl | (simp only [List.length_drop, List.length_take]; rfl)) ?_; (with_reducible refine (groupcontrolref2_Parse.calls k2 (rdOf ByteArray.empty y177 x49_2) t183 t184 _ A26.out).mono ?_); rintro e w42 ⟨rfl, hb⟩; refine ⟨_, rfl, ?_⟩; have n0_ := Aside0.mk (Kd.R_below (by (with_reducible repeat (first | apply Kd.R_alloc | apply Kd.R_drewN | apply Kd.R_drew)); exact HO_47.out) hb); have n1_ := Aside0.mk (IsS46.below (by repeat (first | (with_reducible first | exact HI170.out | apply IsS46.alloc | apply IsS46.drewN | apply IsS46.drew | apply IsS46.set_1) | exact HI170.out)) hb); have n2_ := Aside0.mk (below_step (by repeat (first | (with_reducible first | exact HB.out | apply below_alloc | apply pw_below_drewN | apply below_drew1 | refine below_set ?_ (IsS46.ge HI170.out)) | exact HB.out)) hb); clear HO_47; clear HI170; clear HB; have HO_47 := n0_; have HI170 := n1_; have HB := n2_; clear n0_ n1_ n2_; (try clear hb); (try clear hb2); (try clear hk); (try clear hi)) | ((with_reducible refine gate_callee (f := 7) rfl ?_); refine goesL_ (some 65) rfl rfl Tryd.func7 (by kernel_rfl) rfl #[.string (rdOf ByteArray.empty y177 x49_2)] rfl (by (try simp only [List.map_toArray, List.map_cons, List.map_nil]); first | done | rfl | (simp only [List.length_drop, List.length_take]; rfl)) ?_; (with_reducible refine (number_Hundredths.calls k2 (rdOf ByteArray.empty y177 x49_2) t185 t186 _ A27.out).mono ?_); rintro e w43 ⟨rfl, hb⟩; refine ⟨_, rfl, ?_⟩; have n0_ := Aside0.mk (Kd.R_below (by (with_reducible repeat (first | apply Kd.R_alloc | apply Kd.R_drewN | apply Kd.R_drew)); exact HO_47.out) hb); have n1_ := Aside0.mk (IsS46.below (by repeat (first | (with_reducible first | exact HI170.out | apply IsS46.alloc | apply IsS46.drewN | apply IsS46.drew | apply IsS46.set_1) | exact HI170.out)) hb); have n2_ := Aside0.mk (below_step (by repeat (first | (with_reducible first | exact HB.out | apply below_alloc | apply pw_below_drewN | apply below_drew1 | refine below_set ?_ (IsS46.ge HI170.out)) | exact HB.out)) hb); clear HO_47; clear HI170; clear HB; have HO_47 := n0_; have HI170 := n1_; have HB := n2_; clear n0_ n1_ n2_; (try clear hb); (try clear hb2); (try clear hk); (try clear hi)) | ((with_reducible refine gate_callee (f := 15) rfl ?_); refine goesL_ (some 70) rfl rfl Tryd.func15 (by kernel_rfl) rfl #[.string (rdOf ByteArray.empty y177 x49_2)] rfl (by (try simp only [List.map_toArray, List.map_cons, List.map_nil]); first | done | rfl | (simp only [List.length_drop, List.length_take]; rfl)) ?_; (with_reducible refine (groupcontrolref2_Hundredths.calls (rdOf ByteArray.empty y177 x49_2) t187 t188 _ A28.out).mono ?_); rintro e w44 ⟨rfl, hb⟩; refine ⟨_, rfl, ?_⟩; have n0_ := Aside0.mk (Kd.R_below (by (with_reducible repeat (first | apply Kd.R_alloc | apply Kd.R_drewN | apply Kd.R_drew)); exact HO_47.out) hb); have n1_ := Aside0.mk (IsS46.below (by repeat (first | (with_reducible first | exact HI170.out | apply IsS46.alloc | apply IsS46.drewN | apply IsS46.drew | apply IsS46.set_1) | exact HI170.out)) hb); have n2_ := Aside0.mk (below_step (by repeat (first | (with_reducible first | exact HB.out | apply below_alloc | apply pw_below_drewN | apply below_drew1 | refine below_set ?_ (IsS46.ge HI170.out)) | exact HB.out)) hb); clear HO_47; clear HI170; clear HB; have HO_47 := n0_; have HI170 := n1_; have HB := n2_; clear n0_ n1_ n2_; (try clear hb); (try clear hb2); (try clear hk); (try clear hi)))
                          go_ret
                          exact ⟨by first | rfl | (simp [errW_none, errW_some] <;> rfl) | (simp [*, errW_none, errW_some] <;> rfl), by repeat (first | (with_reducible first | exact HB.out | apply below_alloc | apply pw_below_drewN | apply below_drew1 | refine below_set ?_ (IsS46.ge HI170.out)) | exact HB.out)⟩
                      · rw [if_neg c30] at H
                        have c30b0 : (t182 == t184) = false := beq_eq_false_iff_ne.mpr c30
                        have c30b1 : (t182 != t184) = true := bne_iff_ne.mpr c30
                        obtain rfl := Option.some.inj H
                        have p180 : 0 ≤ (x49_2 : Int) := of_decide_eq_true (by first | (with_reducible assumption) | assumption)
                        have q180 : x49_2 < (y177.length : Int) := of_decide_eq_true (by first | (with_reducible assumption) | assumption)
                        obtain ⟨ad180, e180, hx180_0⟩ := Kd.at_string (Kd.R_reads' HO_47.out).2.2 x49_2 p180 q180
                        cases e180
                        replace p180 := eq_true p180
                        replace q180 := eq_true q180
                        go_wp2_with (first | ((with_reducible refine gate_callee (f := 13) rfl ?_); refine goesL_ (some 55) rfl rfl Tryd.func13 (by kernel_rfl) rfl #[.string (rdOf ByteArray.empty y177 x49_2)] rfl (by (try simp only [List.map_toArray, List.map_cons, List.map_nil]); first | done | rfl | (simp only [List.length_drop, List.length_take]; rfl)) ?_; (with_reducible refine (number_Parse.calls k2 (rdOf ByteArray.empty y177 x49_2) t181 t182 _ A25.out).mono ?_); rintro e w45 ⟨rfl, hb⟩; refine ⟨_, rfl, ?_⟩; have n0_ := Aside0.mk (Kd.R_below (by (with_reducible repeat (first | apply Kd.R_alloc | apply Kd.R_drewN | apply Kd.R_drew)); exact HO_47.out) hb); have n1_ := Aside0.mk (IsS46.below (by repeat (first | (with_reducible first | exact HI170.out | apply IsS46.alloc | apply IsS46.drewN | apply IsS46.drew | apply IsS46.set_1) | exact HI170.out)) hb); have n2_ := Aside0.mk (below_step (by repeat (first | (with_reducible first | exact HB.out | apply below_alloc | apply pw_below_drewN | apply below_drew1 | refine below_set ?_ (IsS46.ge HI170.out)) | exact HB.out)) hb); clear HO_47; clear HI170; clear HB; have HO_47 := n0_; have HI170 := n1_; have HB := n2_; clear n0_ n1_ n2_; (try clear hb); (try clear hb2); (try clear hk); (try clear hi)) | ((with_reducible refine gate_callee (f := 14) rfl ?_); refine goesL_ (some 60) rfl rfl Tryd.func14 (by kernel_rfl) rfl #[.string (rdOf ByteArray.empty y177 x49_2)] rfl (by (try simp only [List.map_toArray, List.map_cons, List.map_nil]); first | done | rfl | (simp only [List.length_drop, List.length_take]; rfl)) ?_; (with_reducible refine (groupcontrolref2_Parse.calls k2 (rdOf ByteArray.empty y177 x49_2) t183 t184 _ A26.out).mono ?_); rintro e w46 ⟨rfl, hb⟩; refine ⟨_, rfl, ?_⟩; have n0_ := Aside0.mk (Kd.R_below (by (with_reducible repeat (first | apply Kd.R_alloc | apply Kd.R_drewN | apply Kd.R_drew)); exact HO_47.out) hb); have n1_ := Aside0.mk (IsS46.below (by repeat (first | (with_reducible first | exact HI170.out | apply IsS46.alloc | apply IsS46.drewN | apply IsS46.drew | apply IsS46.set_1) | exact HI170.out)) hb); have n2_ := Aside0.mk (below_step (by repeat (first | (with_reducible first | exact HB.out | apply below_alloc | apply pw_below_drewN | apply below_drew1 | refine below_set ?_ (IsS46.ge HI170.out)) | exact HB.out)) hb); clear HO_47; clear HI170; clear HB; have HO_47 := n0_; have HI170 := n1_; have HB := n2_; clear n0_ n1_ n2_; (try clear hb); (try clear hb2); (try clear hk); (try clear hi)) | ((with_reducible refine gate_callee (f := 7) rfl ?_); refine goesL_ (some 65) rfl rfl Tryd.func7 (by kernel_rfl) rfl #[.string (rdOf ByteArray.empty y177 x49_2)] rfl (by (try simp only [List.map_toArray, List.map_cons, List.map_nil]); first | done | rfl | (simp only [List.length_drop, List.length_take]; rfl)) ?_; (with_reducible refine (number_Hundredths.calls k2 (rdOf ByteArray.empty y177 x49_2) t185 t186 _ A27.out).mono ?_); rintro e w47 ⟨rfl, hb⟩; refine ⟨_, rfl, ?_⟩; have n0_ := Aside0.mk (Kd.R_below (by (with_reducible repeat (first | apply Kd.R_alloc | apply Kd.R_drewN | apply Kd.R_drew)); exact HO_47.out) hb); have n1_ := Aside0.mk (IsS46.below (by repeat (first | (with_reducible first | exact HI170.out | apply IsS46.alloc | apply IsS46.drewN | apply IsS46.drew | apply IsS46.set_1) | exact HI170.out)) hb); have n2_ := Aside0.mk (below_step (by repeat (first | (with_reducible first | exact HB.out | apply below_alloc | apply pw_below_drewN | apply below_drew1 | refine below_set ?_ (IsS46.ge HI170.out)) | exact HB.out)) hb); clear HO_47; clear HI170; clear HB; have HO_47 := n0_; have HI170 := n1_; have HB := n2_; clear n0_ n1_ n2_; (try clear hb); (try clear hb2); (try clear hk); (try clear hi)) | ((with_reducible refine gate_callee (f := 15) rfl ?_); refine goesL_ (some 70) rfl rfl Tryd.func15 (by kernel_rfl) rfl #[.string (rdOf ByteArray.empty y177 x49_2)] rfl (by (try simp only [List.map_toArray, List.map_cons, List.map_nil]); first | done | rfl | (simp only [List.length_drop, List.length_take]; rfl)) ?_; (with_reducible refine (groupcontrolref2_Hundredths.calls (rdOf ByteArray.empty y177 x49_2) t187 t188 _ A28.out).mono ?_); rintro e w48 ⟨rfl, hb⟩; refine ⟨_, rfl, ?_⟩; have n0_ := Aside0.mk (Kd.R_below (by (with_reducible repeat (first | apply Kd.R_alloc | apply Kd.R_drewN | apply Kd.R_drew)); exact HO_47.out) hb); have n1_ := Aside0.mk (IsS46.below (by repeat (first | (with_reducible first | exact HI170.out | apply IsS46.alloc | apply IsS46.drewN | apply IsS46.drew | apply IsS46.set_1) | exact HI170.out)) hb); have n2_ := Aside0.mk (below_step (by repeat (first | (with_reducible first | exact HB.out | apply below_alloc | apply pw_below_drewN | apply below_drew1 | refine below_set ?_ (IsS46.ge HI170.out)) | exact HB.out)) hb); clear HO_47; clear HI170; clear HB; have HO_47 := n0_; have HI170 := n1_; have HB := n2_; clear n0_ n1_ n2_; (try clear hb); (try clear hb2); (try clear hk); (try clear hi)))
                        go_ret
                        exact ⟨by first | rfl | (simp [errW_none, errW_some] <;> rfl) | (simp [*, errW_none, errW_some] <;> rfl), by repeat (first | (with_reducible first | exact HB.out | apply below_alloc | apply pw_below_drewN | apply below_drew1 | refine below_set ?_ (IsS46.ge HI170.out)) | exact HB.out)⟩
                    · rw [if_neg c29] at H
                      have c29b0 : (t181 == t183) = false := beq_eq_false_iff_ne.mpr c29
                      have c29b1 : (t181 != t183) = true := bne_iff_ne.mpr c29
                      obtain rfl := Option.some.inj H
                      have p180 : 0 ≤ (x49_2 : Int) := of_decide_eq_true (by first | (with_reducible assumption) | assumption)
                      have q180 : x49_2 < (y177.length : Int) := of_decide_eq_true (by first | (with_reducible assumption) | assumption)
                      obtain ⟨ad180, e180, hx180_0⟩ := Kd.at_string (Kd.R_reads' HO_47.out).2.2 x49_2 p180 q180
                      cases e180
                      replace p180 := eq_true p180
                      replace q180 := eq_true q180
                      go_wp2_with (first | ((with_reducible refine gate_callee (f := 13) rfl ?_); refine goesL_ (some 55) rfl rfl Tryd.func13 (by kernel_rfl) rfl #[.string (rdOf ByteArray.empty y177 x49_2)] rfl (by (try simp only [List.map_toArray, List.map_cons, List.map_nil]); first | done | rfl | (simp only [List.length_drop, List.length_take]; rfl)) ?_; (with_reducible refine (number_Parse.calls k2 (rdOf ByteArray.empty y177 x49_2) t181 t182 _ A25.out).mono ?_); rintro e w49 ⟨rfl, hb⟩; refine ⟨_, rfl, ?_⟩; have n0_ := Aside0.mk (Kd.R_below (by (with_reducible repeat (first | apply Kd.R_alloc | apply Kd.R_drewN | apply Kd.R_drew)); exact HO_47.out) hb); have n1_ := Aside0.mk (IsS46.below (by repeat (first | (with_reducible first | exact HI170.out | apply IsS46.alloc | apply IsS46.drewN | apply IsS46.drew | apply IsS46.set_1) | exact HI170.out)) hb); have n2_ := Aside0.mk (below_step (by repeat (first | (with_reducible first | exact HB.out | apply below_alloc | apply pw_below_drewN | apply below_drew1 | refine below_set ?_ (IsS46.ge HI170.out)) | exact HB.out)) hb); clear HO_47; clear HI170; clear HB; have HO_47 := n0_; have HI170 := n1_; have HB := n2_; clear n0_ n1_ n2_; (try clear hb); (try clear hb2); (try clear hk); (try clear hi)) | ((with_reducible refine gate_callee (f := 14) rfl ?_); refine goesL_ (some 60) rfl rfl Tryd.func14 (by kernel_rfl) rfl #[.string (rdOf ByteArray.empty y177 x49_2)] rfl (by (try simp only [List.map_toArray, List.map_cons, List.map_nil]); first | done | rfl | (simp only [List.length_drop, List.length_take]; rfl)) ?_; (with_reducible refine (groupcontrolref2_Parse.calls k2 (rdOf ByteArray.empty y177 x49_2) t183 t184 _ A26.out).mono ?_); rintro e w50 ⟨rfl, hb⟩; refine ⟨_, rfl, ?_⟩; have n0_ := Aside0.mk (Kd.R_below (by (with_reducible repeat (first | apply Kd.R_alloc | apply Kd.R_drewN | apply Kd.R_drew)); exact HO_47.out) hb); have n1_ := Aside0.mk (IsS46.below (by repeat (first | (with_reducible first | exact HI170.out | apply IsS46.alloc | apply IsS46.drewN | apply IsS46.drew | apply IsS46.set_1) | exact HI170.out)) hb); have n2_ := Aside0.mk (below_step (by repeat (first | (with_reducible first | exact HB.out | apply below_alloc | apply pw_below_drewN | apply below_drew1 | refine below_set ?_ (IsS46.ge HI170.out)) | exact HB.out)) hb); clear HO_47; clear HI170; clear HB; have HO_47 := n0_; have HI170 := n1_; have HB := n2_; clear n0_ n1_ n2_; (try clear hb); (try clear hb2); (try clear hk); (try clear hi)) | ((with_reducible refine gate_callee (f := 7) rfl ?_); refine goesL_ (some 65) rfl rfl Tryd.func7 (by kernel_rfl) rfl #[.string (rdOf ByteArray.empty y177 x49_2)] rfl (by (try simp only [List.map_toArray, List.map_cons, List.map_nil]); first | done | rfl | (simp only [List.length_drop, List.length_take]; rfl)) ?_; (with_reducible refine (number_Hundredths.calls k2 (rdOf ByteArray.empty y177 x49_2) t185 t186 _ A27.out).mono ?_); rintro e w51 ⟨rfl, hb⟩; refine ⟨_, rfl, ?_⟩; have n0_ := Aside0.mk (Kd.R_below (by (with_reducible repeat (first | apply Kd.R_alloc | apply Kd.R_drewN | apply Kd.R_drew)); exact HO_47.out) hb); have n1_ := Aside0.mk (IsS46.below (by repeat (first | (with_reducible first | exact HI170.out | apply IsS46.alloc | apply IsS46.drewN | apply IsS46.drew | apply IsS46.set_1) | exact HI170.out)) hb); have n2_ := Aside0.mk (below_step (by repeat (first | (with_reducible first | exact HB.out | apply below_alloc | apply pw_below_drewN | apply below_drew1 | refine below_set ?_ (IsS46.ge HI170.out)) | exact HB.out)) hb); clear HO_47; clear HI170; clear HB; have HO_47 := n0_; have HI170 := n1_; have HB := n2_; clear n0_ n1_ n2_; (try clear hb); (try clear hb2); (try clear hk); (try clear hi)) | ((with_reducible refine gate_callee (f := 15) rfl ?_); refine goesL_ (some 70) rfl rfl Tryd.func15 (by kernel_rfl) rfl #[.string (rdOf ByteArray.empty y177 x49_2)] rfl (by (try simp only [List.map_toArray, List.map_cons, List.map_nil]); first | done | rfl | (simp only [List.length_drop, List.length_take]; rfl)) ?_; (with_reducible refine (groupcontrolref2_Hundredths.calls (rdOf ByteArray.empty y177 x49_2) t187 t188 _ A28.out).mono ?_); rintro e w52 ⟨rfl, hb⟩; refine ⟨_, rfl, ?_⟩; have n0_ := Aside0.mk (Kd.R_below (by (with_reducible repeat (first | apply Kd.R_alloc | apply Kd.R_drewN | apply Kd.R_drew)); exact HO_47.out) hb); have n1_ := Aside0.mk (IsS46.below (by repeat (first | (with_reducible first | exact HI170.out | apply IsS46.alloc | apply IsS46.drewN | apply IsS46.drew | apply IsS46.set_1) | exact HI170.out)) hb); have n2_ := Aside0.mk (below_step (by repeat (first | (with_reducible first | exact HB.out | apply below_alloc | apply pw_below_drewN | apply below_drew1 | refine below_set ?_ (IsS46.ge HI170.out)) | exact HB.out)) hb); clear HO_47; clear HI170; clear HB; have HO_47 := n0_; have HI170 := n1_; have HB := n2_; clear n0_ n1_ n2_; (try clear hb); (try clear hb2); (try clear hk); (try clear hi)))
                      go_ret
                      exact ⟨by first | rfl | (simp [errW_none, errW_some] <;> rfl) | (simp [*, errW_none, errW_some] <;> rfl), by repeat (first | (with_reducible first | exact HB.out | apply below_alloc | apply pw_below_drewN | apply below_drew1 | refine below_set ?_ (IsS46.ge HI170.out)) | exact HB.out)⟩
                  · rw [if_neg c24] at H
                    exact absurd H (by simp)
                · rw [if_neg c23] at H
                  exact absurd H (by simp)
              · rw [if_neg c22] at H
                have c22b0 : decide (x49_2 < (y177.length : Int)) = false := decide_eq_false c22
                clear c22
                replace H := Option.bind_eq_some_iff.mp H
                obtain ⟨⟨t189, t190⟩, A530, H⟩ := H
                replace H : ((some (([a1, t189, (-1), 1099511627776, 1099511627777, 4611686018427387904, 4611686018427387905, 10000, 10001] : List Int) : List Int)).bind fun y191 => (groupcontrollaw2_NumberTexts.l1 k2 y191 (y191.length : Int) 0)) = some r := H
                have A53 := Aside0.mk A530
                clear A530
                obtain ⟨y191, hy191⟩ : ∃ y_ : List Int, y_ = (([a1, t189, (-1), 1099511627776, 1099511627777, 4611686018427387904, 4611686018427387905, 10000, 10001] : List Int)) := ⟨_, rfl⟩
                replace H : (groupcontrollaw2_NumberTexts.l1 k2 y191 (y191.length : Int) 0) = some r := by first | (rw [hy191]; with_reducible exact H) | (have H2_ := (Option.bind_some _ _).symm.trans H; rw [hy191]; with_reducible exact H2_) | (have H2_ := (Option.bind_some _ _).symm.trans H; with_reducible exact H2_) | with_reducible exact H | (rw [hy191]; exact H) | exact H
                have Ny191 := Aside0.mk hy191
                clear hy191
                have H' := Aside0.mk H
                clear H
                go_wp2_with (first | ((with_reducible refine gate_callee (f := 16) rfl ?_); refine goesL_ (some 94) rfl rfl Tryd.func16 (by kernel_rfl) rfl #[.pointer (some ⟨g170, 0, none⟩), .int .i64 20000] rfl (by (try simp only [List.map_toArray, List.map_cons, List.map_nil]); first | done | rfl | (simp only [List.length_drop, List.length_take]; rfl)) ?_; (with_reducible refine (groupcontrolmade_Dice_Next.calls k2 g170 t168 t176 20000 t189 t190 w _ ?side1 ?side2 A53.out).mono ?_); (case side1 => repeat (first | (with_reducible first | exact HI170.out | apply IsS46.alloc | apply IsS46.drewN | apply IsS46.drew | apply IsS46.set_1) | exact HI170.out)); (case side2 => repeat (first | (with_reducible first | exact HB.out | apply below_alloc | apply pw_below_drewN | apply below_drew1 | refine below_set ?_ (IsS46.ge HI170.out)) | exact HB.out)); rintro e w54 ⟨rfl, hi, hb, hk⟩; refine ⟨_, rfl, ?_⟩; have n0_ := Aside0.mk (Kd.R_mono (Kd.R_keep (IsS46.apart (show IsS46 w _ g170 t168 t176 from by repeat (first | (with_reducible first | exact HI170.out | apply IsS46.alloc | apply IsS46.drewN | apply IsS46.drew | apply IsS46.set_1) | exact HI170.out)) (by (with_reducible repeat (first | apply Kd.R_alloc | apply Kd.R_drewN | apply Kd.R_drew)); exact HO_47.out) (by decide)) hk (fun _ h => h.2)) (fun _ h => h.1)); have n1_ := Aside0.mk (hb); have n2_ := Aside0.mk (hi); clear HO_47; clear HB; clear HI170; have HO_47 := n0_; have HB := n1_; have HI170 := n2_; clear n0_ n1_ n2_; (try clear hb); (try clear hb2); (try clear hk); (try clear hi)) | ((with_reducible refine gate_dst (N := 95) rfl ?_); refine Kd.R_lit (Kd.int .i64) _ 3 ?hg (N := 95) ?hd (xs := ([a1, t189, (-1), 1099511627776, 1099511627777, 4611686018427387904, 4611686018427387905, 10000, 10001] : List Int)) (inner := [.int .i64 a1, .int .i64 t189, .int .i64 (-1), .int .i64 1099511627776, .int .i64 1099511627777, .int .i64 4611686018427387904, .int .i64 4611686018427387905, .int .i64 10000, .int .i64 10001]) (ok := fun _ => True) (okp := fun _ => True) ?hr ?hp (fun _ hk => hk) trivial (Below.refl _ _) (Nat.le_refl _) (by simp) ?_; (case hd => rfl); (case hg => rfl); (case hr => first | (go_simp; done) | (go_simp; rfl)); (case hp => exact (Reps.one (show Kd.M (Kd.int .i64) _ _ _ a1 [.int .i64 a1] from rfl) (Reps.one (show Kd.M (Kd.int .i64) _ _ _ t189 [.int .i64 t189] from rfl) (Reps.one (show Kd.M (Kd.int .i64) _ _ _ (-1) [.int .i64 (-1)] from rfl) (Reps.one (show Kd.M (Kd.int .i64) _ _ _ 1099511627776 [.int .i64 1099511627776] from rfl) (Reps.one (show Kd.M (Kd.int .i64) _ _ _ 1099511627777 [.int .i64 1099511627777] from rfl) (Reps.one (show Kd.M (Kd.int .i64) _ _ _ 4611686018427387904 [.int .i64 4611686018427387904] from rfl) (Reps.one (show Kd.M (Kd.int .i64) _ _ _ 4611686018427387905 [.int .i64 4611686018427387905] from rfl) (Reps.one (show Kd.M (Kd.int .i64) _ _ _ 10000 [.int .i64 10000] from rfl) (Reps.one (show Kd.M (Kd.int .i64) _ _ _ 10001 [.int .i64 10001] from rfl) (Reps.none _ _))))))))))); intro v192 w55 ho56 hb hg_ hnew_; clear hg_ hnew_; (first | rw [← Ny191.out] at ho56 | (simp only [Int.reduceToNat] at ho56; rw [← Ny191.out] at ho56)); have n0_ := Aside0.mk (Kd.R_below (by (with_reducible repeat (first | apply Kd.R_alloc | apply Kd.R_drewN | apply Kd.R_drew)); exact HO_47.out) hb); have n1_ := Aside0.mk (Kd.R_lower ho56 (below_size (by repeat (first | (with_reducible first | exact HB.out | apply below_alloc | apply pw_below_drewN | apply below_drew1 | refine below_set ?_ (IsS46.ge HI170.out)) | exact HB.out)))); have n2_ := Aside0.mk (IsS46.below (by repeat (first | (with_reducible first | exact HI170.out | apply IsS46.alloc | apply IsS46.drewN | apply IsS46.drew | apply IsS46.set_1) | exact HI170.out)) hb); have n3_ := Aside0.mk (below_step (by repeat (first | (with_reducible first | exact HB.out | apply below_alloc | apply pw_below_drewN | apply below_drew1 | refine below_set ?_ (IsS46.ge HI170.out)) | exact HB.out)) hb); clear HO_47; clear HI170; clear HB; have HO_47 := n0_; have HO193 := n1_; have HI170 := n2_; have HB := n3_; clear n0_ n1_ n2_ n3_; clear hb ho56; obtain ⟨Ao57, co57, eo57⟩ := Kd.R_slice HO193.out; subst eo57))
                go_loopg [97] k2 (fun kq v97 w' => ∃ (x97_3 : Int), v97 = .int .i64 x97_3 ∧ Aside0 (groupcontrollaw2_NumberTexts.l1 kq y191 (y191.length : Int) x97_3 = some r) ∧ Aside0 (kq ≤ k2) ∧ Aside0 (Kd.R (Kd.int .i64) 3 w' w.heap.size (fun _ => True) (.slice Ao57 y191.length co57) y191) ∧ Aside0 (Below w.heap.size w w'))
                case atStart => exact ⟨(0), (by first | rfl | (simp; done) | (simp [*]; done)), H', ⟨Nat.le_refl _⟩, ⟨by (with_reducible repeat (first | apply Kd.R_alloc | apply Kd.R_drewN | apply Kd.R_drew)); exact HO193.out⟩, ⟨by repeat (first | (with_reducible first | exact HB.out | apply below_alloc | apply pw_below_drewN | apply below_drew1 | refine below_set ?_ (IsS46.ge HI170.out)) | exact HB.out)⟩⟩
                case round =>
                  clear H'
                  try clear c1
                  try clear p1
                  try clear q1
                  try clear hx1
                  try clear c2
                  try clear p2
                  try clear c3
                  try clear c4
                  try clear c5
                  try clear c5b0
                  try clear c5b1
                  try clear p6
                  try clear c7
                  try clear c9
                  try clear c11
                  try clear c12
                  try clear c13
                  try clear c14
                  try clear c14b0
                  try clear c14b1
                  try clear c14b2
                  try clear c15
                  try clear c16
                  try clear p18
                  try clear q18
                  try clear hx18
                  try clear c22
                  try clear c22b0
                  try clear c23
                  try clear c23b0
                  try clear c24
                  try clear c24b0
                  try clear c29
                  try clear c29b0
                  try clear c29b1
                  try clear c30
                  try clear c30b0
                  try clear c30b1
                  try clear c31
                  try clear c31b0
                  try clear c31b1
                  try clear c32
                  try clear c32b0
                  try clear c32b1
                  try clear hx180_0
                  try clear p180
                  try clear p2
                  try clear q180
                  obtain ⟨x97_3, rfl, HA, HK3, HO_95, HB⟩ := hrel
                  cases gk with
                  | zero => exact absurd HA.out (by simp [groupcontrollaw2_NumberTexts.l1])
                  | succ k3 =>
                    have H := HA.out
                    clear HA
                    simp only [groupcontrollaw2_NumberTexts.l1] at H
                    by_cases c58 : x97_3 < (y191.length : Int)
                    · rw [if_pos c58] at H
                      have c58b0 : decide (x97_3 < (y191.length : Int)) = true := decide_eq_true c58
                      clear c58
                      by_cases c59 : 0 ≤ x97_3
                      · rw [if_pos c59] at H
                        have c59b0 : decide (0 ≤ x97_3) = true := decide_eq_true c59
                        clear c59
                        by_cases c60 : x97_3 < (y191.length : Int)
                        · rw [if_pos c60] at H
                          have c60b0 : decide (x97_3 < (y191.length : Int)) = true := decide_eq_true c60
                          clear c60
                          replace H := Option.bind_eq_some_iff.mp H
                          obtain ⟨⟨t196, t197⟩, A610, H⟩ := H
                          replace H : ((groupcontrolref2_Format.f k3 (rd y191 x97_3)).bind fun bt198 => ((number_FormatHundredths.f (rd y191 x97_3)).bind fun bt200 => ((groupcontrolref2_FormatHundredths.f k3 (rd y191 x97_3)).bind fun bt202 => (if t196.toList = bt198.1.toList then (if t197 = bt198.2 then (if bt200.1.toList = bt202.1.toList then (if bt200.2 = bt202.2 then (groupcontrollaw2_NumberTexts.l1 k3 y191 (y191.length : Int) (wrap64 (x97_3 + 1))) else (some false)) else (some false)) else (some false)) else (some false))))) = some r := H
                          have A61 := Aside0.mk A610
                          clear A610
                          replace H := Option.bind_eq_some_iff.mp H
                          obtain ⟨⟨t198, t199⟩, A620, H⟩ := H
                          replace H : ((number_FormatHundredths.f (rd y191 x97_3)).bind fun bt200 => ((groupcontrolref2_FormatHundredths.f k3 (rd y191 x97_3)).bind fun bt202 => (if t196.toList = t198.toList then (if t197 = t199 then (if bt200.1.toList = bt202.1.toList then (if bt200.2 = bt202.2 then (groupcontrollaw2_NumberTexts.l1 k3 y191 (y191.length : Int) (wrap64 (x97_3 + 1))) else (some false)) else (some false)) else (some false)) else (some false)))) = some r := H
                          have A62 := Aside0.mk A620
                          clear A620
                          replace H := Option.bind_eq_some_iff.mp H
                          obtain ⟨⟨t200, t201⟩, A630, H⟩ := H
                          replace H : ((groupcontrolref2_FormatHundredths.f k3 (rd y191 x97_3)).bind fun bt202 => (if t196.toList = t198.toList then (if t197 = t199 then (if t200.toList = bt202.1.toList then (if t201 = bt202.2 then (groupcontrollaw2_NumberTexts.l1 k3 y191 (y191.length : Int) (wrap64 (x97_3 + 1))) else (some false)) else (some false)) else (some false)) else (some false))) = some r := H
                          have A63 := Aside0.mk A630
                          clear A630
                          replace H := Option.bind_eq_some_iff.mp H
                          obtain ⟨⟨t202, t203⟩, A640, H⟩ := H
                          replace H : (if t196.toList = t198.toList then (if t197 = t199 then (if t200.toList = t202.toList then (if t201 = t203 then (groupcontrollaw2_NumberTexts.l1 k3 y191 (y191.length : Int) (wrap64 (x97_3 + 1))) else (some false)) else (some false)) else (some false)) else (some false)) = some r := H
                          have A64 := Aside0.mk A640
                          clear A640
                          by_cases c65 : t196.toList = t198.toList
                          · rw [if_pos c65] at H
                            have c65b0 : (t196.toList == t198.toList) = true := beq_iff_eq.mpr c65
                            have c65b1 : (t196.toList != t198.toList) = false := bne_eq_false_iff_eq.mpr c65
                            clear c65
                            by_cases c66 : t197 = t199
                            · rw [if_pos c66] at H
                              have c66b0 : (t197 == t199) = true := beq_iff_eq.mpr c66
                              have c66b1 : (t197 != t199) = false := bne_eq_false_iff_eq.mpr c66
                              clear c66
                              by_cases c67 : t200.toList = t202.toList
                              · rw [if_pos c67] at H
                                have c67b0 : (t200.toList == t202.toList) = true := beq_iff_eq.mpr c67
                                have c67b1 : (t200.toList != t202.toList) = false := bne_eq_false_iff_eq.mpr c67
                                clear c67
                                by_cases c68 : t201 = t203
                                · rw [if_pos c68] at H
                                  have c68b0 : (t201 == t203) = true := beq_iff_eq.mpr c68
                                  have c68b1 : (t201 != t203) = false := bne_eq_false_iff_eq.mpr c68
                                  clear c68
                                  have H' := Aside0.mk H
                                  clear H
                                  have p195 : 0 ≤ (x97_3 : Int) := of_decide_eq_true (by first | (with_reducible assumption) | assumption)
                                  have q195 : x97_3 < (y191.length : Int) := of_decide_eq_true (by first | (with_reducible assumption) | assumption)
                                  obtain ⟨ad195, e195, hx195_0⟩ := Kd.at_int (Kd.R_reads' HO_95.out).2.2 x97_3 p195 q195
                                  cases e195
                                  replace p195 := eq_true p195
                                  replace q195 := eq_true q195
                                  go_wp2_with (first | ((with_reducible refine gate_callee (f := 17) rfl ?_); refine goesL_ (some 103) rfl rfl Tryd.func17 (by kernel_rfl) rfl #[.int .i64 (rd y191 x97_3)] rfl (by (try simp only [List.map_toArray, List.map_cons, List.map_nil]); first | done | rfl | (simp only [List.length_drop, List.length_take]; rfl)) ?_; (with_reducible refine (number_Format.calls (hLaid := by first | exact HLAID.out | exact LaidW.below HLAID.out (by repeat (first | (with_reducible first | exact HB.out | apply below_alloc | apply pw_below_drewN | apply below_drew1) | exact HB.out | exact Aside0.out (by assumption)))) (rd y191 x97_3) t196 t197 _ A61.out).mono ?_); rintro e w69 ⟨rfl, hb⟩; refine ⟨_, rfl, ?_⟩; have n0_ := Aside0.mk (Kd.R_below (by (with_reducible repeat (first | apply Kd.R_alloc | apply Kd.R_drewN | apply Kd.R_drew)); exact HO_95.out) hb); have n1_ := Aside0.mk (below_step (by repeat (first | (with_reducible first | exact HB.out | apply below_alloc | apply pw_below_drewN | apply below_drew1) | exact HB.out)) hb); clear HO_95; clear HB; have HO_95 := n0_; have HB := n1_; clear n0_ n1_; (try clear hb); (try clear hb2); (try clear hk); (try clear hi)) | ((with_reducible refine gate_callee (f := 18) rfl ?_); refine goesL_ (some 108) rfl rfl Tryd.func18 (by kernel_rfl) rfl #[.int .i64 (rd y191 x97_3)] rfl (by (try simp only [List.map_toArray, List.map_cons, List.map_nil]); first | done | rfl | (simp only [List.length_drop, List.length_take]; rfl)) ?_; (with_reducible refine (groupcontrolref2_Format.calls k3 (rd y191 x97_3) t198 t199 _ A62.out).mono ?_); rintro e w70 ⟨rfl, hb⟩; refine ⟨_, rfl, ?_⟩; have n0_ := Aside0.mk (Kd.R_below (by (with_reducible repeat (first | apply Kd.R_alloc | apply Kd.R_drewN | apply Kd.R_drew)); exact HO_95.out) hb); have n1_ := Aside0.mk (below_step (by repeat (first | (with_reducible first | exact HB.out | apply below_alloc | apply pw_below_drewN | apply below_drew1) | exact HB.out)) hb); clear HO_95; clear HB; have HO_95 := n0_; have HB := n1_; clear n0_ n1_; (try clear hb); (try clear hb2); (try clear hk); (try clear hi)) | ((with_reducible refine gate_callee (f := 6) rfl ?_); refine goesL_ (some 113) rfl rfl Tryd.func6 (by kernel_rfl) rfl #[.int .i64 (rd y191 x97_3)] rfl (by (try simp only [List.map_toArray, List.map_cons, List.map_nil]); first | done | rfl | (simp only [List.length_drop, List.length_take]; rfl)) ?_; (with_reducible refine (number_FormatHundredths.calls (hLaid := by first | exact HLAID.out | exact LaidW.below HLAID.out (by repeat (first | (with_reducible first | exact HB.out | apply below_alloc | apply pw_below_drewN | apply below_drew1) | exact HB.out | exact Aside0.out (by assumption)))) (rd y191 x97_3) t200 t201 _ A63.out).mono ?_); rintro e w71 ⟨rfl, hb⟩; refine ⟨_, rfl, ?_⟩; have n0_ := Aside0.mk (Kd.R_below (by (with_reducible repeat (first | apply Kd.R_alloc | apply Kd.R_drewN | apply Kd.R_drew)); exact HO_95.out) hb); have n1_ := Aside0.mk (below_step (by repeat (first | (with_reducible first | exact HB.out | apply below_alloc | apply pw_below_drewN | apply below_drew1) | exact HB.out)) hb); clear HO_95; clear HB; have HO_95 := n0_; have HB := n1_; clear n0_ n1_; (try clear hb); (try clear hb2); (try clear hk); (try clear hi)) | ((with_reducible refine gate_callee (f := 19) rfl ?_); refine goesL_ (some 118) rfl rfl Tryd.func19 (by kernel_rfl) rfl #[.int .i64 (rd y191 x97_3)] rfl (by (try simp only [List.map_toArray, List.map_cons, List.map_nil]); first | done | rfl | (simp only [List.length_drop, List.length_take]; rfl)) ?_; (with_reducible refine (groupcontrolref2_FormatHundredths.calls k3 (rd y191 x97_3) t202 t203 _ A64.out).mono ?_); rintro e w72 ⟨rfl, hb⟩; refine ⟨_, rfl, ?_⟩; have n0_ := Aside0.mk (Kd.R_below (by (with_reducible repeat (first | apply Kd.R_alloc | apply Kd.R_drewN | apply Kd.R_drew)); exact HO_95.out) hb); have n1_ := Aside0.mk (below_step (by repeat (first | (with_reducible first | exact HB.out | apply below_alloc | apply pw_below_drewN | apply below_drew1) | exact HB.out)) hb); clear HO_95; clear HB; have HO_95 := n0_; have HB := n1_; clear n0_ n1_; (try clear hb); (try clear hb2); (try clear hk); (try clear hi)))
                                  go_roundg k3
                                  case measure => have := HJ3.out; have := HK2.out; have := HK3.out; omega
                                  case rel => exact ⟨(wrap64 (x97_3 + 1)), (by first | rfl | (simp; done) | (simp [*]; done)), H', ⟨by have := HJ3.out; have := HK2.out; have := HK3.out; omega⟩, ⟨by (with_reducible repeat (first | apply Kd.R_alloc | apply Kd.R_drewN | apply Kd.R_drew)); exact HO_95.out⟩, ⟨by repeat (first | (with_reducible first | exact HB.out | apply below_alloc | apply pw_below_drewN | apply below_drew1) | exact HB.out)⟩⟩
                                · rw [if_neg c68] at H
                                  have c68b0 : (t201 == t203) = false := beq_eq_false_iff_ne.mpr c68
                                  have c68b1 : (t201 != t203) = true := bne_iff_ne.mpr c68
                                  obtain rfl := Option.some.inj H
                                  have p195 : 0 ≤ (x97_3 : Int) := of_decide_eq_true (by first | (with_reducible assumption) | assumption)
                                  have q195 : x97_3 < (y191.length : Int) := of_decide_eq_true (by first | (with_reducible assumption) | assumption)
                                  obtain ⟨ad195, e195, hx195_0⟩ := Kd.at_int (Kd.R_reads' HO_95.out).2.2 x97_3 p195 q195
                                  cases e195
                                  replace p195 := eq_true p195
                                  replace q195 := eq_true q195
                                  go_wp2_with (first | ((with_reducible refine gate_callee (f := 17) rfl ?_); refine goesL_ (some 103) rfl rfl Tryd.func17 (by kernel_rfl) rfl #[.int .i64 (rd y191 x97_3)] rfl (by (try simp only [List.map_toArray, List.map_cons, List.map_nil]); first | done | rfl | (simp only [List.length_drop, List.length_take]; rfl)) ?_; (with_reducible refine (number_Format.calls (hLaid := by first | exact HLAID.out | exact LaidW.below HLAID.out (by repeat (first | (with_reducible first | exact HB.out | apply below_alloc | apply pw_below_drewN | apply below_drew1) | exact HB.out | exact Aside0.out (by assumption)))) (rd y191 x97_3) t196 t197 _ A61.out).mono ?_); rintro e w73 ⟨rfl, hb⟩; refine ⟨_, rfl, ?_⟩; have n0_ := Aside0.mk (Kd.R_below (by (with_reducible repeat (first | apply Kd.R_alloc | apply Kd.R_drewN | apply Kd.R_drew)); exact HO_95.out) hb); have n1_ := Aside0.mk (below_step (by repeat (first | (with_reducible first | exact HB.out | apply below_alloc | apply pw_below_drewN | apply below_drew1) | exact HB.out)) hb); clear HO_95; clear HB; have HO_95 := n0_; have HB := n1_; clear n0_ n1_; (try clear hb); (try clear hb2); (try clear hk); (try clear hi)) | ((with_reducible refine gate_callee (f := 18) rfl ?_); refine goesL_ (some 108) rfl rfl Tryd.func18 (by kernel_rfl) rfl #[.int .i64 (rd y191 x97_3)] rfl (by (try simp only [List.map_toArray, List.map_cons, List.map_nil]); first | done | rfl | (simp only [List.length_drop, List.length_take]; rfl)) ?_; (with_reducible refine (groupcontrolref2_Format.calls k3 (rd y191 x97_3) t198 t199 _ A62.out).mono ?_); rintro e w74 ⟨rfl, hb⟩; refine ⟨_, rfl, ?_⟩; have n0_ := Aside0.mk (Kd.R_below (by (with_reducible repeat (first | apply Kd.R_alloc | apply Kd.R_drewN | apply Kd.R_drew)); exact HO_95.out) hb); have n1_ := Aside0.mk (below_step (by repeat (first | (with_reducible first | exact HB.out | apply below_alloc | apply pw_below_drewN | apply below_drew1) | exact HB.out)) hb); clear HO_95; clear HB; have HO_95 := n0_; have HB := n1_; clear n0_ n1_; (try clear hb); (try clear hb2); (try clear hk); (try clear hi)) | ((with_reducible refine gate_callee (f := 6) rfl ?_); refine goesL_ (some 113) rfl rfl Tryd.func6 (by kernel_rfl) rfl #[.int .i64 (rd y191 x97_3)] rfl (by (try simp only [List.map_toArray, List.map_cons, List.map_nil]); first | done | rfl | (simp only [List.length_drop, List.length_take]; rfl)) ?_; (with_reducible refine (number_FormatHundredths.calls (hLaid := by first | exact HLAID.out | exact LaidW.below HLAID.out (by repeat (first | (with_reducible first | exact HB.out | apply below_alloc | apply pw_below_drewN | apply below_drew1) | exact HB.out | exact Aside0.out (by assumption)))) (rd y191 x97_3) t200 t201 _ A63.out).mono ?_); rintro e w75 ⟨rfl, hb⟩; refine ⟨_, rfl, ?_⟩; have n0_ := Aside0.mk (Kd.R_below (by (with_reducible repeat (first | apply Kd.R_alloc | apply Kd.R_drewN | apply Kd.R_drew)); exact HO_95.out) hb); have n1_ := Aside0.mk (below_step (by repeat (first | (with_reducible first | exact HB.out | apply below_alloc | apply pw_below_drewN | apply below_drew1) | exact HB.out)) hb); clear HO_95; clear HB; have HO_95 := n0_; have HB := n1_; clear n0_ n1_; (try clear hb); (try clear hb2); (try clear hk); (try clear hi)) | ((with_reducible refine gate_callee (f := 19) rfl ?_); refine goesL_ (some 118) rfl rfl Tryd.func19 (by kernel_rfl) rfl #[.int .i64 (rd y191 x97_3)] rfl (by (try simp only [List.map_toArray, List.map_cons, List.map_nil]); first | done | rfl | (simp only [List.length_drop, List.length_take]; rfl)) ?_; (with_reducible refine (groupcontrolref2_FormatHundredths.calls k3 (rd y191 x97_3) t202 t203 _ A64.out).mono ?_); rintro e w76 ⟨rfl, hb⟩; refine ⟨_, rfl, ?_⟩; have n0_ := Aside0.mk (Kd.R_below (by (with_reducible repeat (first | apply Kd.R_alloc | apply Kd.R_drewN | apply Kd.R_drew)); exact HO_95.out) hb); have n1_ := Aside0.mk (below_step (by repeat (first | (with_reducible first | exact HB.out | apply below_alloc | apply pw_below_drewN | apply below_drew1) | exact HB.out)) hb); clear HO_95; clear HB; have HO_95 := n0_; have HB := n1_; clear n0_ n1_; (try clear hb); (try clear hb2); (try clear hk); (try clear hi)))
                                  go_ret
                                  exact ⟨by first | rfl | (simp [errW_none, errW_some] <;> rfl) | (simp [*, errW_none, errW_some] <;> rfl), by repeat (first | (with_reducible first | exact HB.out | apply below_alloc | apply pw_below_drewN | apply below_drew1) | exact HB.out)⟩
                              · rw [if_neg c67] at H
                                have c67b0 : (t200.toList == t202.toList) = false := beq_eq_false_iff_ne.mpr c67
                                have c67b1 : (t200.toList != t202.toList) = true := bne_iff_ne.mpr c67
                                obtain rfl := Option.some.inj H
                                have p195 : 0 ≤ (x97_3 : Int) := of_decide_eq_true (by first | (with_reducible assumption) | assumption)
                                have q195 : x97_3 < (y191.length : Int) := of_decide_eq_true (by first | (with_reducible assumption) | assumption)
                                obtain ⟨ad195, e195, hx195_0⟩ := Kd.at_int (Kd.R_reads' HO_95.out).2.2 x97_3 p195 q195
                                cases e195
                                replace p195 := eq_true p195
                                replace q195 := eq_true q195
                                go_wp2_with (first | ((with_reducible refine gate_callee (f := 17) rfl ?_); refine goesL_ (some 103) rfl rfl Tryd.func17 (by kernel_rfl) rfl #[.int .i64 (rd y191 x97_3)] rfl (by (try simp only [List.map_toArray, List.map_cons, List.map_nil]); first | done | rfl | (simp only [List.length_drop, List.length_take]; rfl)) ?_; (with_reducible refine (number_Format.calls (hLaid := by first | exact HLAID.out | exact LaidW.below HLAID.out (by repeat (first | (with_reducible first | exact HB.out | apply below_alloc | apply pw_below_drewN | apply below_drew1) | exact HB.out | exact Aside0.out (by assumption)))) (rd y191 x97_3) t196 t197 _ A61.out).mono ?_); rintro e w77 ⟨rfl, hb⟩; refine ⟨_, rfl, ?_⟩; have n0_ := Aside0.mk (Kd.R_below (by (with_reducible repeat (first | apply Kd.R_alloc | apply Kd.R_drewN | apply Kd.R_drew)); exact HO_95.out) hb); have n1_ := Aside0.mk (below_step (by repeat (first | (with_reducible first | exact HB.out | apply below_alloc | apply pw_below_drewN | apply below_drew1) | exact HB.out)) hb); clear HO_95; clear HB; have HO_95 := n0_; have HB := n1_; clear n0_ n1_; (try clear hb); (try clear hb2); (try clear hk); (try clear hi)) | ((with_reducible refine gate_callee (f := 18) rfl ?_); refine goesL_ (some 108) rfl rfl Tryd.func18 (by kernel_rfl) rfl #[.int .i64 (rd y191 x97_3)] rfl (by (try simp only [List.map_toArray, List.map_cons, List.map_nil]); first | done | rfl | (simp only [List.length_drop, List.length_take]; rfl)) ?_; (with_reducible refine (groupcontrolref2_Format.calls k3 (rd y191 x97_3) t198 t199 _ A62.out).mono ?_); rintro e w78 ⟨rfl, hb⟩; refine ⟨_, rfl, ?_⟩; have n0_ := Aside0.mk (Kd.R_below (by (with_reducible repeat (first | apply Kd.R_alloc | apply Kd.R_drewN | apply Kd.R_drew)); exact HO_95.out) hb); have n1_ := Aside0.mk (below_step (by repeat (first | (with_reducible first | exact HB.out | apply below_alloc | apply pw_below_drewN | apply below_drew1) | exact HB.out)) hb); clear HO_95; clear HB; have HO_95 := n0_; have HB := n1_; clear n0_ n1_; (try clear hb); (try clear hb2); (try clear hk); (try clear hi)) | ((with_reducible refine gate_callee (f := 6) rfl ?_); refine goesL_ (some 113) rfl rfl Tryd.func6 (by kernel_rfl) rfl #[.int .i64 (rd y191 x97_3)] rfl (by (try simp only [List.map_toArray, List.map_cons, List.map_nil]); first | done | rfl | (simp only [List.length_drop, List.length_take]; rfl)) ?_; (with_reducible refine (number_FormatHundredths.calls (hLaid := by first | exact HLAID.out | exact LaidW.below HLAID.out (by repeat (first | (with_reducible first | exact HB.out | apply below_alloc | apply pw_below_drewN | apply below_drew1) | exact HB.out | exact Aside0.out (by assumption)))) (rd y191 x97_3) t200 t201 _ A63.out).mono ?_); rintro e w79 ⟨rfl, hb⟩; refine ⟨_, rfl, ?_⟩; have n0_ := Aside0.mk (Kd.R_below (by (with_reducible repeat (first | apply Kd.R_alloc | apply Kd.R_drewN | apply Kd.R_drew)); exact HO_95.out) hb); have n1_ := Aside0.mk (below_step (by repeat (first | (with_reducible first | exact HB.out | apply below_alloc | apply pw_below_drewN | apply below_drew1) | exact HB.out)) hb); clear HO_95; clear HB; have HO_95 := n0_; have HB := n1_; clear n0_ n1_; (try clear hb); (try clear hb2); (try clear hk); (try clear hi)) | ((with_reducible refine gate_callee (f := 19) rfl ?_); refine goesL_ (some 118) rfl rfl Tryd.func19 (by kernel_rfl) rfl #[.int .i64 (rd y191 x97_3)] rfl (by (try simp only [List.map_toArray, List.map_cons, List.map_nil]); first | done | rfl | (simp only [List.length_drop, List.length_take]; rfl)) ?_; (with_reducible refine (groupcontrolref2_FormatHundredths.calls k3 (rd y191 x97_3) t202 t203 _ A64.out).mono ?_); rintro e w80 ⟨rfl, hb⟩; refine ⟨_, rfl, ?_⟩; have n0_ := Aside0.mk (Kd.R_below (by (with_reducible repeat (first | apply Kd.R_alloc | apply Kd.R_drewN | apply Kd.R_drew)); exact HO_95.out) hb); have n1_ := Aside0.mk (below_step (by repeat (first | (with_reducible first | exact HB.out | apply below_alloc | apply pw_below_drewN | apply below_drew1) | exact HB.out)) hb); clear HO_95; clear HB; have HO_95 := n0_; have HB := n1_; clear n0_ n1_; (try clear hb); (try clear hb2); (try clear hk); (try clear hi)))
                                go_ret
                                exact ⟨by first | rfl | (simp [errW_none, errW_some] <;> rfl) | (simp [*, errW_none, errW_some] <;> rfl), by repeat (first | (with_reducible first | exact HB.out | apply below_alloc | apply pw_below_drewN | apply below_drew1) | exact HB.out)⟩
                            · rw [if_neg c66] at H
                              have c66b0 : (t197 == t199) = false := beq_eq_false_iff_ne.mpr c66
                              have c66b1 : (t197 != t199) = true := bne_iff_ne.mpr c66
                              obtain rfl := Option.some.inj H
                              have p195 : 0 ≤ (x97_3 : Int) := of_decide_eq_true (by first | (with_reducible assumption) | assumption)
                              have q195 : x97_3 < (y191.length : Int) := of_decide_eq_true (by first | (with_reducible assumption) | assumption)
                              obtain ⟨ad195, e195, hx195_0⟩ := Kd.at_int (Kd.R_reads' HO_95.out).2.2 x97_3 p195 q195
                              cases e195
                              replace p195 := eq_true p195
                              replace q195 := eq_true q195
                              go_wp2_with (first | ((with_reducible refine gate_callee (f := 17) rfl ?_); refine goesL_ (some 103) rfl rfl Tryd.func17 (by kernel_rfl) rfl #[.int .i64 (rd y191 x97_3)] rfl (by (try simp only [List.map_toArray, List.map_cons, List.map_nil]); first | done | rfl | (simp only [List.length_drop, List.length_take]; rfl)) ?_; (with_reducible refine (number_Format.calls (hLaid := by first | exact HLAID.out | exact LaidW.below HLAID.out (by repeat (first | (with_reducible first | exact HB.out | apply below_alloc | apply pw_below_drewN | apply below_drew1) | exact HB.out | exact Aside0.out (by assumption)))) (rd y191 x97_3) t196 t197 _ A61.out).mono ?_); rintro e w81 ⟨rfl, hb⟩; refine ⟨_, rfl, ?_⟩; have n0_ := Aside0.mk (Kd.R_below (by (with_reducible repeat (first | apply Kd.R_alloc | apply Kd.R_drewN | apply Kd.R_drew)); exact HO_95.out) hb); have n1_ := Aside0.mk (below_step (by repeat (first | (with_reducible first | exact HB.out | apply below_alloc | apply pw_below_drewN | apply below_drew1) | exact HB.out)) hb); clear HO_95; clear HB; have HO_95 := n0_; have HB := n1_; clear n0_ n1_; (try clear hb); (try clear hb2); (try clear hk); (try clear hi)) | ((with_reducible refine gate_callee (f := 18) rfl ?_); refine goesL_ (some 108) rfl rfl Tryd.func18 (by kernel_rfl) rfl #[.int .i64 (rd y191 x97_3)] rfl (by (try simp only [List.map_toArray, List.map_cons, List.map_nil]); first | done | rfl | (simp only [List.length_drop, List.length_take]; rfl)) ?_; (with_reducible refine (groupcontrolref2_Format.calls k3 (rd y191 x97_3) t198 t199 _ A62.out).mono ?_); rintro e w82 ⟨rfl, hb⟩; refine ⟨_, rfl, ?_⟩; have n0_ := Aside0.mk (Kd.R_below (by (with_reducible repeat (first | apply Kd.R_alloc | apply Kd.R_drewN | apply Kd.R_drew)); exact HO_95.out) hb); have n1_ := Aside0.mk (below_step (by repeat (first | (with_reducible first | exact HB.out | apply below_alloc | apply pw_below_drewN | apply below_drew1) | exact HB.out)) hb); clear HO_95; clear HB; have HO_95 := n0_; have HB := n1_; clear n0_ n1_; (try clear hb); (try clear hb2); (try clear hk); (try clear hi)) | ((with_reducible refine gate_callee (f := 6) rfl ?_); refine goesL_ (some 113) rfl rfl Tryd.func6 (by kernel_rfl) rfl #[.int .i64 (rd y191 x97_3)] rfl (by (try simp only [List.map_toArray, List.map_cons, List.map_nil]); first | done | rfl | (simp only [List.length_drop, List.length_take]; rfl)) ?_; (with_reducible refine (number_FormatHundredths.calls (hLaid := by first | exact HLAID.out | exact LaidW.below HLAID.out (by repeat (first | (with_reducible first | exact HB.out | apply below_alloc | apply pw_below_drewN | apply below_drew1) | exact HB.out | exact Aside0.out (by assumption)))) (rd y191 x97_3) t200 t201 _ A63.out).mono ?_); rintro e w83 ⟨rfl, hb⟩; refine ⟨_, rfl, ?_⟩; have n0_ := Aside0.mk (Kd.R_below (by (with_reducible repeat (first | apply Kd.R_alloc | apply Kd.R_drewN | apply Kd.R_drew)); exact HO_95.out) hb); have n1_ := Aside0.mk (below_step (by repeat (first | (with_reducible first | exact HB.out | apply below_alloc | apply pw_below_drewN | apply below_drew1) | exact HB.out)) hb); clear HO_95; clear HB; have HO_95 := n0_; have HB := n1_; clear n0_ n1_; (try clear hb); (try clear hb2); (try clear hk); (try clear hi)) | ((with_reducible refine gate_callee (f := 19) rfl ?_); refine goesL_ (some 118) rfl rfl Tryd.func19 (by kernel_rfl) rfl #[.int .i64 (rd y191 x97_3)] rfl (by (try simp only [List.map_toArray, List.map_cons, List.map_nil]); first | done | rfl | (simp only [List.length_drop, List.length_take]; rfl)) ?_; (with_reducible refine (groupcontrolref2_FormatHundredths.calls k3 (rd y191 x97_3) t202 t203 _ A64.out).mono ?_); rintro e w84 ⟨rfl, hb⟩; refine ⟨_, rfl, ?_⟩; have n0_ := Aside0.mk (Kd.R_below (by (with_reducible repeat (first | apply Kd.R_alloc | apply Kd.R_drewN | apply Kd.R_drew)); exact HO_95.out) hb); have n1_ := Aside0.mk (below_step (by repeat (first | (with_reducible first | exact HB.out | apply below_alloc | apply pw_below_drewN | apply below_drew1) | exact HB.out)) hb); clear HO_95; clear HB; have HO_95 := n0_; have HB := n1_; clear n0_ n1_; (try clear hb); (try clear hb2); (try clear hk); (try clear hi)))
                              go_ret
                              exact ⟨by first | rfl | (simp [errW_none, errW_some] <;> rfl) | (simp [*, errW_none, errW_some] <;> rfl), by repeat (first | (with_reducible first | exact HB.out | apply below_alloc | apply pw_below_drewN | apply below_drew1) | exact HB.out)⟩
                          · rw [if_neg c65] at H
                            have c65b0 : (t196.toList == t198.toList) = false := beq_eq_false_iff_ne.mpr c65
                            have c65b1 : (t196.toList != t198.toList) = true := bne_iff_ne.mpr c65
                            obtain rfl := Option.some.inj H
                            have p195 : 0 ≤ (x97_3 : Int) := of_decide_eq_true (by first | (with_reducible assumption) | assumption)
                            have q195 : x97_3 < (y191.length : Int) := of_decide_eq_true (by first | (with_reducible assumption) | assumption)
                            obtain ⟨ad195, e195, hx195_0⟩ := Kd.at_int (Kd.R_reads' HO_95.out).2.2 x97_3 p195 q195
                            cases e195
                            replace p195 := eq_true p195
                            replace q195 := eq_true q195
                            go_wp2_with (first | ((with_reducible refine gate_callee (f := 17) rfl ?_); refine goesL_ (some 103) rfl rfl Tryd.func17 (by kernel_rfl) rfl #[.int .i64 (rd y191 x97_3)] rfl (by (try simp only [List.map_toArray, List.map_cons, List.map_nil]); first | done | rfl | (simp only [List.length_drop, List.length_take]; rfl)) ?_; (with_reducible refine (number_Format.calls (hLaid := by first | exact HLAID.out | exact LaidW.below HLAID.out (by repeat (first | (with_reducible first | exact HB.out | apply below_alloc | apply pw_below_drewN | apply below_drew1) | exact HB.out | exact Aside0.out (by assumption)))) (rd y191 x97_3) t196 t197 _ A61.out).mono ?_); rintro e w85 ⟨rfl, hb⟩; refine ⟨_, rfl, ?_⟩; have n0_ := Aside0.mk (Kd.R_below (by (with_reducible repeat (first | apply Kd.R_alloc | apply Kd.R_drewN | apply Kd.R_drew)); exact HO_95.out) hb); have n1_ := Aside0.mk (below_step (by repeat (first | (with_reducible first | exact HB.out | apply below_alloc | apply pw_below_drewN | apply below_drew1) | exact HB.out)) hb); clear HO_95; clear HB; have HO_95 := n0_; have HB := n1_; clear n0_ n1_; (try clear hb); (try clear hb2); (try clear hk); (try clear hi)) | ((with_reducible refine gate_callee (f := 18) rfl ?_); refine goesL_ (some 108) rfl rfl Tryd.func18 (by kernel_rfl) rfl #[.int .i64 (rd y191 x97_3)] rfl (by (try simp only [List.map_toArray, List.map_cons, List.map_nil]); first | done | rfl | (simp only [List.length_drop, List.length_take]; rfl)) ?_; (with_reducible refine (groupcontrolref2_Format.calls k3 (rd y191 x97_3) t198 t199 _ A62.out).mono ?_); rintro e w86 ⟨rfl, hb⟩; refine ⟨_, rfl, ?_⟩; have n0_ := Aside0.mk (Kd.R_below (by (with_reducible repeat (first | apply Kd.R_alloc | apply Kd.R_drewN | apply Kd.R_drew)); exact HO_95.out) hb); have n1_ := Aside0.mk (below_step (by repeat (first | (with_reducible first | exact HB.out | apply below_alloc | apply pw_below_drewN | apply below_drew1) | exact HB.out)) hb); clear HO_95; clear HB; have HO_95 := n0_; have HB := n1_; clear n0_ n1_; (try clear hb); (try clear hb2); (try clear hk); (try clear hi)) | ((with_reducible refine gate_callee (f := 6) rfl ?_); refine goesL_ (some 113) rfl rfl Tryd.func6 (by kernel_rfl) rfl #[.int .i64 (rd y191 x97_3)] rfl (by (try simp only [List.map_toArray, List.map_cons, List.map_nil]); first | done | rfl | (simp only [List.length_drop, List.length_take]; rfl)) ?_; (with_reducible refine (number_FormatHundredths.calls (hLaid := by first | exact HLAID.out | exact LaidW.below HLAID.out (by repeat (first | (with_reducible first | exact HB.out | apply below_alloc | apply pw_below_drewN | apply below_drew1) | exact HB.out | exact Aside0.out (by assumption)))) (rd y191 x97_3) t200 t201 _ A63.out).mono ?_); rintro e w87 ⟨rfl, hb⟩; refine ⟨_, rfl, ?_⟩; have n0_ := Aside0.mk (Kd.R_below (by (with_reducible repeat (first | apply Kd.R_alloc | apply Kd.R_drewN | apply Kd.R_drew)); exact HO_95.out) hb); have n1_ := Aside0.mk (below_step (by repeat (first | (with_reducible first | exact HB.out | apply below_alloc | apply pw_below_drewN | apply below_drew1) | exact HB.out)) hb); clear HO_95; clear HB; have HO_95 := n0_; have HB := n1_; clear n0_ n1_; (try clear hb); (try clear hb2); (try clear hk); (try clear hi)) | ((with_reducible refine gate_callee (f := 19) rfl ?_); refine goesL_ (some 118) rfl rfl Tryd.func19 (by kernel_rfl) rfl #[.int .i64 (rd y191 x97_3)] rfl (by (try simp only [List.map_toArray, List.map_cons, List.map_nil]); first | done | rfl | (simp only [List.length_drop, List.length_take]; rfl)) ?_; (with_reducible refine (groupcontrolref2_FormatHundredths.calls k3 (rd y191 x97_3) t202 t203 _ A64.out).mono ?_); rintro e w88 ⟨rfl, hb⟩; refine ⟨_, rfl, ?_⟩; have n0_ := Aside0.mk (Kd.R_below (by (with_reducible repeat (first | apply Kd.R_alloc | apply Kd.R_drewN | apply Kd.R_drew)); exact HO_95.out) hb); have n1_ := Aside0.mk (below_step (by repeat (first | (with_reducible first | exact HB.out | apply below_alloc | apply pw_below_drewN | apply below_drew1) | exact HB.out)) hb); clear HO_95; clear HB; have HO_95 := n0_; have HB := n1_; clear n0_ n1_; (try clear hb); (try clear hb2); (try clear hk); (try clear hi)))
                            go_ret
                            exact ⟨by first | rfl | (simp [errW_none, errW_some] <;> rfl) | (simp [*, errW_none, errW_some] <;> rfl), by repeat (first | (with_reducible first | exact HB.out | apply below_alloc | apply pw_below_drewN | apply below_drew1) | exact HB.out)⟩
                        · rw [if_neg c60] at H
                          exact absurd H (by simp)
                      · rw [if_neg c59] at H
                        exact absurd H (by simp)
                    · rw [if_neg c58] at H
                      have c58b0 : decide (x97_3 < (y191.length : Int)) = false := decide_eq_false c58
                      clear c58
                      replace H := Option.bind_eq_some_iff.mp H
                      obtain ⟨t194, A890, H⟩ := H
                      replace H : (some t194) = some r := H
                      have A89 := Aside0.mk A890
                      clear A890
                      obtain rfl := Option.some.inj H
                      go_wp2_with (first | ((with_reducible refine gate_callee (f := 9) rfl ?_); refine goesL_ (some 140) rfl rfl Tryd.func9 (by kernel_rfl) rfl #[] rfl (by (try simp only [List.map_toArray, List.map_cons, List.map_nil]); first | done | rfl | (simp only [List.length_drop, List.length_take]; rfl)) ?_; (with_reducible refine (groupcontrollaw2_sane.calls k3  t194 _ A89.out).mono ?_); rintro e w90 ⟨rfl, hb⟩; refine ⟨_, rfl, ?_⟩; have n0_ := Aside0.mk (Kd.R_below (by (with_reducible repeat (first | apply Kd.R_alloc | apply Kd.R_drewN | apply Kd.R_drew)); exact HO_95.out) hb); have n1_ := Aside0.mk (below_step (by repeat (first | (with_reducible first | exact HB.out | apply below_alloc | apply pw_below_drewN | apply below_drew1) | exact HB.out)) hb); clear HO_95; clear HB; have HO_95 := n0_; have HB := n1_; clear n0_ n1_; (try clear hb); (try clear hb2); (try clear hk); (try clear hi)))
                      go_ret
                      exact ⟨by first | rfl | (simp [errW_none, errW_some] <;> rfl) | (simp [*, errW_none, errW_some] <;> rfl), by repeat (first | (with_reducible first | exact HB.out | apply below_alloc | apply pw_below_drewN | apply below_drew1) | exact HB.out)⟩
        · rw [if_neg c14] at H
          exact absurd H (by simp)

/-- THE ONE PURE STATEMENT of groupcontrollaw2_NumberTexts: yours. -/
def groupcontrollaw2_NumberTexts.Pure : Prop := ∀ (a0 : ByteArray) (a1 : Int) (l2 : List Int), a0.size ≤ 140737488351232 → (Lit.int .i64 a1).wf = true → l2.length ≤ maxLen → l2.length * 8 ≤ 140737488351232 → (∀ x ∈ l2, (Lit.int .i64 x).wf = true) → ∃ k, groupcontrollaw2_NumberTexts.f k a0 a1 l2 = some true
theorem groupcontrollaw2_NumberTexts.walk (P : groupcontrollaw2_NumberTexts.Pure) (a0 : ByteArray) (a1 : Int) (a2 : Option Addr) (len2 cap2 : Nat) (z2 : List Int) (w : World) (hLaid : LaidW w) (w0 : a0.size ≤ 140737488351232) (w1 : (Lit.int .i64 a1).wf = true) (w2 : (a2 = none ∧ len2 = 0 ∧ cap2 = 0 ∧ z2 = []) ∨ ∃ x, a2 = some x ∧ len2 ≤ cap2 ∧ cap2 ≤ maxLen ∧ z2.length = cap2 ∧ (∀ i, i < z2.length → w.cell? (x.add i) = some (.int .i64 (z2.getD i 0))) ∧ ∀ n ∈ z2, (Lit.int .i64 n).wf = true) (y2 : len2 * 8 ≤ 140737488351232) :
    Calls Tryd.prog 4 #[.string a0, .int .i64 a1, .slice a2 len2 cap2] w fun e w' => e = .returned (.bool true) ∧ Below w.heap.size w w' := by
  have HLAID := Aside0.mk hLaid
  clear hLaid
  obtain ⟨l2, rfl, hr2, hm2, hw2, hc2⟩ := ReadsInt.ofRowC w2
  obtain ⟨k, h⟩ := P a0 a1 l2 w0 w1 hm2 y2 hw2
  refine (groupcontrollaw2_NumberTexts.calls (hLaid := by first | exact HLAID.out | exact LaidW.below HLAID.out (by repeat (first | (with_reducible first | exact HB.out | apply below_alloc | apply pw_below_drewN | apply below_drew1) | exact HB.out | exact Aside0.out (by assumption)))) k a0 a1 _ _ l2 true w (Kd.C_of_reads (d := (0 : Int)) (h1 := fun _ => rfl) hr2) hc2 h).mono ?_
  rintro e w' ⟨rfl, hd⟩
  exact ⟨rfl, hd⟩

end Go.Proofs.YtgfbamddaepebaaDoor.PN
