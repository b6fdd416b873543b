/- Contracts of functions of the program and of its references, over the translation, for values that can be read as data: each call comes to what a Lean function says. Written by the kit's printer and a program of this session's, with hand-made contracts spliced in. -/
import Derived.Test.YtgfbamddaepebaaDoorPNx0
import Derived.Test.YtgfbamddaepebaaDoorPNx7
namespace Go.Proofs.YtgfbamddaepebaaDoor.PN
open Go.RowKit Go.Proofs.YtgfbamddaepebaaDoorW.PrintWords Go.Proofs.YtgfbamddaepebaaDoorW.PrintLast Go.Proofs.YtgfbamddaepebaaDoorW.PrintMore
attribute [local go_sem] max2_int min2_int max_two min_two max_three min_three max_four min_four   -- for this text's walks alone
set_option linter.unusedVariables false
set_option linter.unusedSimpArgs false

/-! ### groupcontrolref2_FormatHundredths: function 19 -/
def groupcontrolref2_FormatHundredths.j0 : Nat → Int → Bool → Option (ByteArray × Int)
  | 0, _, _ => none
  | k + 1, x0, x4 => if x4 = true then (some ((⟨#[]⟩ : ByteArray), 3)) else (if x0 = 10000 then (some ((⟨#[109, 97, 120]⟩ : ByteArray), 0)) else ((groupcontrolref2_Decimal.f k (wrap64 (Int.tdiv x0 100))).bind fun t163 => (if t163.size + 1 ≤ 9223372036854775807 then ((groupcontrolref2_Decimal.f k (Int.tmod (wrap64 (Int.tdiv x0 10)) 10)).bind fun t164 => (if (t163 ++ (⟨#[46]⟩ : ByteArray)).size + t164.size ≤ 9223372036854775807 then ((groupcontrolref2_Decimal.f k (Int.tmod x0 10)).bind fun t165 => (if ((t163 ++ (⟨#[46]⟩ : ByteArray)) ++ t164).size + t165.size ≤ 9223372036854775807 then (some (((t163 ++ (⟨#[46]⟩ : ByteArray)) ++ t164) ++ t165, 0)) else (none))) else (none))) else (none))))
def groupcontrolref2_FormatHundredths.f (k : Nat) (a0 : Int) : Option (ByteArray × Int) := if a0 < 0 then (groupcontrolref2_FormatHundredths.j0 k a0 true) else (groupcontrolref2_FormatHundredths.j0 k a0 (decide (a0 > 10000)))
theorem groupcontrolref2_FormatHundredths.mono_l : ∀ k, (∀ y0 y1, LeO (groupcontrolref2_FormatHundredths.j0 k y0 y1) (groupcontrolref2_FormatHundredths.j0 (k + 1) y0 y1))
  | 0 => fun _ _ r h => by simp [groupcontrolref2_FormatHundredths.j0] at h
  | k + 1 => by
    have ih0 := groupcontrolref2_FormatHundredths.mono_l k
    · intro y0 y1
      unfold groupcontrolref2_FormatHundredths.j0
      repeat' first
      | (with_reducible exact ih0 _ _)
      | (with_reducible exact groupcontrolref2_Decimal.mono _ _)
      | (with_reducible exact LeO.refl _)
      | (with_reducible exact LeO.none _)
      | (with_reducible refine LeO.ite ?_ ?_)
      | (with_reducible refine LeO.bind ?_ (fun _ => ?_))
      | exact ih0 _ _
      | exact groupcontrolref2_Decimal.mono _ _
      | exact LeO.none _
      | refine LeO.ite ?_ ?_
      | refine LeO.bind ?_ (fun _ => ?_)
theorem groupcontrolref2_FormatHundredths.mono : ∀ a0 k, LeO (groupcontrolref2_FormatHundredths.f k a0) (groupcontrolref2_FormatHundredths.f (k + 1) a0) := by
  intro a0 k
  have ih0 := groupcontrolref2_FormatHundredths.mono_l k
  unfold groupcontrolref2_FormatHundredths.f
  repeat' first
      | (with_reducible exact ih0 _ _)
      | (with_reducible exact groupcontrolref2_Decimal.mono _ _)
      | (with_reducible exact LeO.refl _)
      | (with_reducible exact LeO.none _)
      | (with_reducible refine LeO.ite ?_ ?_)
      | (with_reducible refine LeO.bind ?_ (fun _ => ?_))
      | exact ih0 _ _
      | exact groupcontrolref2_Decimal.mono _ _
      | exact LeO.none _
      | refine LeO.ite ?_ ?_
      | refine LeO.bind ?_ (fun _ => ?_)
set_option maxHeartbeats 8000000 in
set_option maxRecDepth 100000 in
theorem groupcontrolref2_FormatHundredths.calls (k : Nat) (a0 : Int) (r1 : ByteArray) (r2 : Int) (w : World) (h : groupcontrolref2_FormatHundredths.f k a0 = some (r1, r2)) :
    Calls Tryd.prog 19 #[.int .i64 a0] w fun e w' => e = .returned (.tuple #[.string r1, .int .i64 r2]) ∧ Below w.heap.size w w' := by
  have HB := Aside0.mk (Below.refl w.heap.size w)
  have H : (if a0 < 0 then (groupcontrolref2_FormatHundredths.j0 k a0 true) else (groupcontrolref2_FormatHundredths.j0 k a0 (decide (a0 > 10000)))) = some (r1, r2) := h
  clear h
  have HC2 := Aside0.mk H
  clear H
  go_enter Tryd.func19, Tryd.ntmps19
  go_upto_region 1 with (fail)
  go_cut [4] (fun v4 wc => ∃ (kq : Nat) (x4_1 : Bool), v4 = .bool x4_1 ∧ Aside0 (groupcontrolref2_FormatHundredths.j0 kq a0 x4_1 = some (r1, r2)) ∧ Aside0 (kq ≤ k) ∧ Aside0 (Below w.heap.size w wc))
  case first =>
    have H := HC2.out
    clear HC2
    by_cases c3 : a0 < 0
    · rw [if_pos c3] at H
      have c3b0 : decide (a0 < 0) = true := decide_eq_true c3
      clear c3
      (first | rw [c3b0] | (simp only [i64_w, i32_w]; rw [c3b0]) | skip)
      have H' := Aside0.mk H
      clear H
      go_wp2
      go_meet
      case rel => exact ⟨_, (true), (by first | rfl | (simp; done) | (simp [*]; done)), H', ⟨by first | omega | exact Nat.le_refl _⟩, ⟨by repeat (first | (with_reducible first | exact HB.out | apply below_alloc | apply pw_below_drewN | apply below_drew1) | exact HB.out)⟩⟩
    · rw [if_neg c3] at H
      have c3b0 : decide (a0 < 0) = false := decide_eq_false c3
      clear c3
      (first | rw [c3b0] | (simp only [i64_w, i32_w]; rw [c3b0]) | skip)
      have H' := Aside0.mk H
      clear H
      go_wp2
      go_meet
      case rel => exact ⟨_, (decide (a0 > 10000)), (by first | rfl | (simp; done) | (simp [*]; done)), H', ⟨by first | omega | exact Nat.le_refl _⟩, ⟨by repeat (first | (with_reducible first | exact HB.out | apply below_alloc | apply pw_below_drewN | apply below_drew1) | exact HB.out)⟩⟩
  case rest =>
    clear HC2
    try clear c1
    try clear p2
    try clear c3
    try clear c3b0
    obtain ⟨kq, x4_1, rfl, HA, HJ1, HB⟩ := hcut
    cases kq with
    | zero => exact absurd HA.out (by simp [groupcontrolref2_FormatHundredths.j0])
    | succ kj1 =>
      have H := HA.out
      clear HA
      simp only [groupcontrolref2_FormatHundredths.j0] at H
      by_cases c4 : x4_1 = true
      · subst c4
        have H1 : (some ((⟨#[]⟩ : ByteArray), 3)) = some (r1, r2) := by rw [if_pos rfl] at H; exact H
        clear H
        have H := H1
        clear H1
        simp only [Option.some.injEq, Prod.mk.injEq] at H
        obtain ⟨rfl, rfl⟩ := H
        go_wp2
        go_ret2
        exact ⟨by first | rfl | (simp [errW_none, errW_some] <;> rfl) | (simp [*, errW_none, errW_some] <;> rfl), by repeat (first | (with_reducible first | exact HB.out | apply below_alloc | apply pw_below_drewN | apply below_drew1) | exact HB.out)⟩
      · replace c4 := Bool.eq_false_iff.mpr c4
        subst c4
        have H1 : (if a0 = 10000 then (some ((⟨#[109, 97, 120]⟩ : ByteArray), 0)) else ((groupcontrolref2_Decimal.f kj1 (wrap64 (Int.tdiv a0 100))).bind fun t163 => (if t163.size + 1 ≤ 9223372036854775807 then ((groupcontrolref2_Decimal.f kj1 (Int.tmod (wrap64 (Int.tdiv a0 10)) 10)).bind fun t164 => (if (t163 ++ (⟨#[46]⟩ : ByteArray)).size + t164.size ≤ 9223372036854775807 then ((groupcontrolref2_Decimal.f kj1 (Int.tmod a0 10)).bind fun t165 => (if ((t163 ++ (⟨#[46]⟩ : ByteArray)) ++ t164).size + t165.size ≤ 9223372036854775807 then (some (((t163 ++ (⟨#[46]⟩ : ByteArray)) ++ t164) ++ t165, 0)) else (none))) else (none))) else (none)))) = some (r1, r2) := by rw [if_neg (show ¬ (false = true) by decide)] at H; exact H
        clear H
        have H := H1
        clear H1
        by_cases c5 : a0 = 10000
        · rw [if_pos c5] at H
          have c5b0 : (a0 == 10000) = true := beq_iff_eq.mpr c5
          have c5b1 : (a0 != 10000) = false := bne_eq_false_iff_eq.mpr c5
          clear c5
          simp only [Option.some.injEq, Prod.mk.injEq] at H
          obtain ⟨rfl, rfl⟩ := H
          go_wp2
          go_ret2
          exact ⟨by first | rfl | (simp [errW_none, errW_some] <;> rfl) | (simp [*, errW_none, errW_some] <;> rfl), by repeat (first | (with_reducible first | exact HB.out | apply below_alloc | apply pw_below_drewN | apply below_drew1) | exact HB.out)⟩
        · rw [if_neg c5] at H
          have c5b0 : (a0 == 10000) = false := beq_eq_false_iff_ne.mpr c5
          have c5b1 : (a0 != 10000) = true := bne_iff_ne.mpr c5
          replace H := Option.bind_eq_some_iff.mp H
          obtain ⟨t163, A60, H⟩ := H
          replace H : (if t163.size + 1 ≤ 9223372036854775807 then ((groupcontrolref2_Decimal.f kj1 (Int.tmod (wrap64 (Int.tdiv a0 10)) 10)).bind fun t164 => (if (t163 ++ (⟨#[46]⟩ : ByteArray)).size + t164.size ≤ 9223372036854775807 then ((groupcontrolref2_Decimal.f kj1 (Int.tmod a0 10)).bind fun t165 => (if ((t163 ++ (⟨#[46]⟩ : ByteArray)) ++ t164).size + t165.size ≤ 9223372036854775807 then (some (((t163 ++ (⟨#[46]⟩ : ByteArray)) ++ t164) ++ t165, 0)) else (none))) else (none))) else (none)) = some (r1, r2) := H
          have A6 := Aside0.mk A60
          clear A60
          by_cases c7 : t163.size + 1 ≤ 9223372036854775807
          · rw [if_pos c7] at H
            have c7b0 := eq_true c7
            have c7b1 : decide (t163.size + 1 ≤ 9223372036854775807) = true := decide_eq_true c7
            try have c7b2 : (9223372036854775807 < t163.size + 1) = False := eq_false (Nat.not_lt.2 c7)
            replace H := Option.bind_eq_some_iff.mp H
            obtain ⟨t164, A80, H⟩ := H
            replace H : (if (t163 ++ (⟨#[46]⟩ : ByteArray)).size + t164.size ≤ 9223372036854775807 then ((groupcontrolref2_Decimal.f kj1 (Int.tmod a0 10)).bind fun t165 => (if ((t163 ++ (⟨#[46]⟩ : ByteArray)) ++ t164).size + t165.size ≤ 9223372036854775807 then (some (((t163 ++ (⟨#[46]⟩ : ByteArray)) ++ t164) ++ t165, 0)) else (none))) else (none)) = some (r1, r2) := H
            have A8 := Aside0.mk A80
            clear A80
            by_cases c9 : (t163 ++ (⟨#[46]⟩ : ByteArray)).size + t164.size ≤ 9223372036854775807
            · rw [if_pos c9] at H
              have c9b0 := eq_true c9
              (try have c9bw : (9223372036854775807 < t163.size + 1 + t164.size) = False := eq_false (by have hz_ := c9; simp [ByteArray.size_append, ByteArray.size_extract, show (⟨#[46]⟩ : ByteArray).size = 1 from rfl] at hz_; omega))
              (try have c9bz : (t163.size + 1 + t164.size ≤ 9223372036854775807) = True := eq_true (by first | simpa using c9 | (have hz_ := c9; simp [ByteArray.size_append, ByteArray.size_extract, show (⟨#[46]⟩ : ByteArray).size = 1 from rfl] at hz_ ⊢; omega) | (have hz_ := c9; simp [ByteArray.size_append, ByteArray.size_extract, show (⟨#[46]⟩ : ByteArray).size = 1 from rfl] at hz_; omega)))
              have c9b1 : decide ((t163 ++ (⟨#[46]⟩ : ByteArray)).size + t164.size ≤ 9223372036854775807) = true := decide_eq_true c9
              try have c9b2 : (9223372036854775807 < (t163 ++ (⟨#[46]⟩ : ByteArray)).size + t164.size) = False := eq_false (Nat.not_lt.2 c9)
              replace H := Option.bind_eq_some_iff.mp H
              obtain ⟨t165, A100, H⟩ := H
              replace H : (if ((t163 ++ (⟨#[46]⟩ : ByteArray)) ++ t164).size + t165.size ≤ 9223372036854775807 then (some (((t163 ++ (⟨#[46]⟩ : ByteArray)) ++ t164) ++ t165, 0)) else (none)) = some (r1, r2) := H
              have A10 := Aside0.mk A100
              clear A100
              by_cases c11 : ((t163 ++ (⟨#[46]⟩ : ByteArray)) ++ t164).size + t165.size ≤ 9223372036854775807
              · rw [if_pos c11] at H
                have c11b0 := eq_true c11
                (try have c11bw : (9223372036854775807 < t163.size + 1 + t164.size + t165.size) = False := eq_false (by have hz_ := c11; simp [ByteArray.size_append, ByteArray.size_extract, show (⟨#[46]⟩ : ByteArray).size = 1 from rfl] at hz_; omega))
                (try have c11bz : (t163.size + 1 + t164.size + t165.size ≤ 9223372036854775807) = True := eq_true (by first | simpa using c11 | (have hz_ := c11; simp [ByteArray.size_append, ByteArray.size_extract, show (⟨#[46]⟩ : ByteArray).size = 1 from rfl] at hz_ ⊢; omega) | (have hz_ := c11; simp [ByteArray.size_append, ByteArray.size_extract, show (⟨#[46]⟩ : ByteArray).size = 1 from rfl] at hz_; omega)))
                have c11b1 : decide (((t163 ++ (⟨#[46]⟩ : ByteArray)) ++ t164).size + t165.size ≤ 9223372036854775807) = true := decide_eq_true c11
                try have c11b2 : (9223372036854775807 < ((t163 ++ (⟨#[46]⟩ : ByteArray)) ++ t164).size + t165.size) = False := eq_false (Nat.not_lt.2 c11)
                simp only [Option.some.injEq, Prod.mk.injEq] at H
                obtain ⟨rfl, rfl⟩ := H
                go_wp2_with (first | ((with_reducible refine gate_callee (f := 8) rfl ?_); refine goesL_ (some 16) rfl rfl Tryd.func8 (by kernel_rfl) rfl #[.int .i64 (wrap64 (Int.tdiv a0 100))] rfl (by (try simp only [List.map_toArray, List.map_cons, List.map_nil]); first | done | rfl | (simp only [List.length_drop, List.length_take]; rfl)) ?_; (with_reducible refine (groupcontrolref2_Decimal.calls kj1 (wrap64 (Int.tdiv a0 100)) t163 _ A6.out).mono ?_); rintro e w12 ⟨rfl, hb⟩; refine ⟨_, rfl, ?_⟩; have n0_ := Aside0.mk (below_step (by repeat (first | (with_reducible first | exact HB.out | apply below_alloc | apply pw_below_drewN | apply below_drew1) | exact HB.out)) hb); clear HB; have HB := n0_; clear n0_; (try clear hb); (try clear hb2); (try clear hk); (try clear hi)) | ((with_reducible refine gate_callee (f := 8) rfl ?_); refine goesL_ (some 21) rfl rfl Tryd.func8 (by kernel_rfl) rfl #[.int .i64 (Int.tmod (wrap64 (Int.tdiv a0 10)) 10)] rfl (by (try simp only [List.map_toArray, List.map_cons, List.map_nil]); first | done | rfl | (simp only [List.length_drop, List.length_take]; rfl)) ?_; (with_reducible refine (groupcontrolref2_Decimal.calls kj1 (Int.tmod (wrap64 (Int.tdiv a0 10)) 10) t164 _ A8.out).mono ?_); rintro e w13 ⟨rfl, hb⟩; refine ⟨_, rfl, ?_⟩; have n0_ := Aside0.mk (below_step (by repeat (first | (with_reducible first | exact HB.out | apply below_alloc | apply pw_below_drewN | apply below_drew1) | exact HB.out)) hb); clear HB; have HB := n0_; clear n0_; (try clear hb); (try clear hb2); (try clear hk); (try clear hi)) | ((with_reducible refine gate_callee (f := 8) rfl ?_); refine goesL_ (some 25) rfl rfl Tryd.func8 (by kernel_rfl) rfl #[.int .i64 (Int.tmod a0 10)] rfl (by (try simp only [List.map_toArray, List.map_cons, List.map_nil]); first | done | rfl | (simp only [List.length_drop, List.length_take]; rfl)) ?_; (with_reducible refine (groupcontrolref2_Decimal.calls kj1 (Int.tmod a0 10) t165 _ A10.out).mono ?_); rintro e w14 ⟨rfl, hb⟩; refine ⟨_, rfl, ?_⟩; have n0_ := Aside0.mk (below_step (by repeat (first | (with_reducible first | exact HB.out | apply below_alloc | apply pw_below_drewN | apply below_drew1) | exact HB.out)) hb); clear HB; have HB := n0_; clear n0_; (try clear hb); (try clear hb2); (try clear hk); (try clear hi)))
                go_ret2
                exact ⟨by first | rfl | (simp [errW_none, errW_some] <;> rfl) | (simp [*, errW_none, errW_some] <;> rfl), by repeat (first | (with_reducible first | exact HB.out | apply below_alloc | apply pw_below_drewN | apply below_drew1) | exact HB.out)⟩
              · rw [if_neg c11] at H
                exact absurd H (by simp)
            · rw [if_neg c9] at H
              exact absurd H (by simp)
          · rw [if_neg c7] at H
            exact absurd H (by simp)

end Go.Proofs.YtgfbamddaepebaaDoor.PN
