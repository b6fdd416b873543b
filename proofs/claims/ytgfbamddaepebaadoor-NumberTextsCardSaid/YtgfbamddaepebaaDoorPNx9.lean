/- Contracts of functions of the program and of its references, over the translation, for values that can be read as data: each call comes to what a Lean function says. Written by the kit's printer and a program of this session's, with hand-made contracts spliced in. -/
import Derived.Test.YtgfbamddaepebaaDoorPNx0
import Derived.Test.YtgfbamddaepebaaDoorPNx4
import Derived.Test.YtgfbamddaepebaaDoorPNx5
import Derived.Test.YtgfbamddaepebaaDoorPNx8
namespace Go.Proofs.YtgfbamddaepebaaDoor.PN
open Go.RowKit Go.Proofs.YtgfbamddaepebaaDoorW.PrintWords Go.Proofs.YtgfbamddaepebaaDoorW.PrintLast Go.Proofs.YtgfbamddaepebaaDoorW.PrintMore
attribute [local go_sem] max2_int min2_int max_two min_two max_three min_three max_four min_four   -- for this text's walks alone
set_option linter.unusedVariables false
set_option linter.unusedSimpArgs false

/-! ### number_Parse: function 13 -/
def number_Parse.j0 : Nat → ByteArray → Int → Option (Int × Int)
  | 0, _, _ => none
  | k + 1, x0, x4 => (number_digits.f x0).bind fun t115 => (if t115 = true then ((number_value.f x0 1099511627777).bind fun t116 => (if 0 ≤ x4 then (if t116 > (shr .i64 1099511627776 x4) then (some (0, 3)) else (some (shl .i64 t116 x4, 0))) else (none))) else (some (0, 2)))
def number_Parse.f (k : Nat) (a0 : ByteArray) : Option (Int × Int) := if a0.toList = ([109, 97, 120] : List UInt8) then (some (4611686018427387904, 0)) else (if a0.toList = ([] : List UInt8) then (number_Parse.j0 k a0 0) else (if 0 ≤ (wrap64 ((a0.size : Int) - 1)) then (if (wrap64 ((a0.size : Int) - 1)) < (a0.size : Int) then ((strings_IndexByte.f (⟨#[75, 77, 71, 84]⟩ : ByteArray) (bt a0 (wrap64 ((a0.size : Int) - 1)))).bind fun t114 => (if t114 ≥ 0 then (if (wrap64 ((a0.size : Int) - 1)) ≤ (a0.size : Int) then (number_Parse.j0 k (a0.extract 0 ((wrap64 ((a0.size : Int) - 1)) : Int).toNat) (wrap64 (10 * (wrap64 (t114 + 1))))) else (none)) else (number_Parse.j0 k a0 0))) else (none)) else (none)))
theorem number_Parse.mono_l : ∀ k, (∀ y0 y1, LeO (number_Parse.j0 k y0 y1) (number_Parse.j0 (k + 1) y0 y1))
  | 0 => fun _ _ r h => by simp [number_Parse.j0] at h
  | k + 1 => by
    have ih0 := number_Parse.mono_l k
    · intro y0 y1
      unfold number_Parse.j0
      repeat' first
      | (with_reducible exact ih0 _ _)
      | (with_reducible exact LeO.refl _)
      | (with_reducible exact LeO.none _)
      | (with_reducible refine LeO.ite ?_ ?_)
      | (with_reducible refine LeO.bind ?_ (fun _ => ?_))
      | exact ih0 _ _
      | exact LeO.none _
      | refine LeO.ite ?_ ?_
      | refine LeO.bind ?_ (fun _ => ?_)
theorem number_Parse.mono : ∀ a0 k, LeO (number_Parse.f k a0) (number_Parse.f (k + 1) a0) := by
  intro a0 k
  have ih0 := number_Parse.mono_l k
  unfold number_Parse.f
  repeat' first
      | (with_reducible exact ih0 _ _)
      | (with_reducible exact LeO.refl _)
      | (with_reducible exact LeO.none _)
      | (with_reducible refine LeO.ite ?_ ?_)
      | (with_reducible refine LeO.bind ?_ (fun _ => ?_))
      | exact ih0 _ _
      | exact LeO.none _
      | refine LeO.ite ?_ ?_
      | refine LeO.bind ?_ (fun _ => ?_)
set_option maxHeartbeats 8000000 in
set_option maxRecDepth 100000 in
theorem number_Parse.calls (k : Nat) (a0 : ByteArray) (r1 : Int) (r2 : Int) (w : World) (h : number_Parse.f k a0 = some (r1, r2)) :
    Calls Tryd.prog 13 #[.string a0] w fun e w' => e = .returned (.tuple #[.int .i64 r1, .int .i64 r2]) ∧ Below w.heap.size w w' := by
  have HB := Aside0.mk (Below.refl w.heap.size w)
  have H : (if a0.toList = ([109, 97, 120] : List UInt8) then (some (4611686018427387904, 0)) else (if a0.toList = ([] : List UInt8) then (number_Parse.j0 k a0 0) else (if 0 ≤ (wrap64 ((a0.size : Int) - 1)) then (if (wrap64 ((a0.size : Int) - 1)) < (a0.size : Int) then ((strings_IndexByte.f (⟨#[75, 77, 71, 84]⟩ : ByteArray) (bt a0 (wrap64 ((a0.size : Int) - 1)))).bind fun t114 => (if t114 ≥ 0 then (if (wrap64 ((a0.size : Int) - 1)) ≤ (a0.size : Int) then (number_Parse.j0 k (a0.extract 0 ((wrap64 ((a0.size : Int) - 1)) : Int).toNat) (wrap64 (10 * (wrap64 (t114 + 1))))) else (none)) else (number_Parse.j0 k a0 0))) else (none)) else (none)))) = some (r1, r2) := h
  clear h
  by_cases c2 : a0.toList = ([109, 97, 120] : List UInt8)
  · rw [if_pos c2] at H
    have c2b0 : (a0.toList == ([109, 97, 120] : List UInt8)) = true := beq_iff_eq.mpr c2
    have c2b1 : (a0.toList != ([109, 97, 120] : List UInt8)) = false := bne_eq_false_iff_eq.mpr c2
    clear c2
    simp only [Option.some.injEq, Prod.mk.injEq] at H
    obtain ⟨rfl, rfl⟩ := H
    go_enter Tryd.func13, Tryd.ntmps13
    go_wp2
    go_ret2
    exact ⟨by first | rfl | (simp [errW_none, errW_some] <;> rfl) | (simp [*, errW_none, errW_some] <;> rfl), by repeat (first | (with_reducible first | exact HB.out | apply below_alloc | apply pw_below_drewN | apply below_drew1) | exact HB.out)⟩
  · rw [if_neg c2] at H
    have c2b0 : (a0.toList == ([109, 97, 120] : List UInt8)) = false := beq_eq_false_iff_ne.mpr c2
    have c2b1 : (a0.toList != ([109, 97, 120] : List UInt8)) = true := bne_iff_ne.mpr c2
    have HC3 := Aside0.mk H
    clear H
    go_enter Tryd.func13, Tryd.ntmps13
    go_upto_if 10 with (fail)
    go_cut [0, 4] (fun v0 v4 wc => ∃ (kq : Nat) (x0_2 : ByteArray) (x4_2 : Int), v0 = .string x0_2 ∧ v4 = .int .i64 x4_2 ∧ Aside0 (number_Parse.j0 kq x0_2 x4_2 = some (r1, r2)) ∧ Aside0 (kq ≤ k) ∧ Aside0 (Below w.heap.size w wc))
    case first =>
      have H := HC3.out
      clear HC3
      by_cases c4 : a0.toList = ([] : List UInt8)
      · rw [if_pos c4] at H
        have c4b0 : (a0.toList == ([] : List UInt8)) = true := beq_iff_eq.mpr c4
        (try have c4e0 : a0.toList.isEmpty = true := by simpa using c4)
        (try have c4e1 : (!a0.toList.isEmpty) = false := by simpa using c4)
        have c4b1 : (a0.toList != ([] : List UInt8)) = false := bne_eq_false_iff_eq.mpr c4
        clear c4
        (first | rw [c4b0] | (simp only [i64_w, i32_w]; rw [c4b0]) | rw [c4e1] | rw [c4e0] | skip)
        have H' := Aside0.mk H
        clear H
        go_wp2
        go_meet
        case rel => exact ⟨_, (a0), (0), (by first | rfl | (simp; done) | (simp [*]; done)), (by first | rfl | (simp; done) | (simp [*]; done)), H', ⟨by first | omega | exact Nat.le_refl _⟩, ⟨by repeat (first | (with_reducible first | exact HB.out | apply below_alloc | apply pw_below_drewN | apply below_drew1) | exact HB.out)⟩⟩
      · rw [if_neg c4] at H
        have c4b0 : (a0.toList == ([] : List UInt8)) = false := beq_eq_false_iff_ne.mpr c4
        (try have c4e0 : a0.toList.isEmpty = false := by simpa using c4)
        (try have c4e1 : (!a0.toList.isEmpty) = true := by simpa using c4)
        have c4b1 : (a0.toList != ([] : List UInt8)) = true := bne_iff_ne.mpr c4
        (first | rw [c4b0] | (simp only [i64_w, i32_w]; rw [c4b0]) | rw [c4e1] | rw [c4e0] | skip)
        obtain ⟨ji5, hji5⟩ : ∃ j_ : Int, (wrap64 ((a0.size : Int) - 1)) = j_ := ⟨_, rfl⟩
        replace H : (if 0 ≤ (ji5) then (if (ji5) < (a0.size : Int) then ((strings_IndexByte.f (⟨#[75, 77, 71, 84]⟩ : ByteArray) (bt a0 (ji5))).bind fun t114 => (if t114 ≥ 0 then (if (ji5) ≤ (a0.size : Int) then (number_Parse.j0 k (a0.extract 0 ((ji5) : Int).toNat) (wrap64 (10 * (wrap64 (t114 + 1))))) else (none)) else (number_Parse.j0 k a0 0))) else (none)) else (none)) = some (r1, r2) := by first | (rw [hji5] at H; exact H) | (simp only [hji5] at H ⊢; exact H)
        have hji5w : (IntKind.i64.wrap ((a0.size : Int) - 1)) = ji5 := (i64_w _).trans hji5
        by_cases c6 : 0 ≤ (ji5)
        · rw [if_pos c6] at H
          have c6b0 : decide (0 ≤ (ji5)) = true := decide_eq_true c6
          clear c6
          by_cases c7 : (ji5) < (a0.size : Int)
          · rw [if_pos c7] at H
            have c7b0 : decide ((ji5) < (a0.size : Int)) = true := decide_eq_true c7
            clear c7
            replace H := Option.bind_eq_some_iff.mp H
            obtain ⟨t114, A90, H⟩ := H
            replace H : (if t114 ≥ 0 then (if (ji5) ≤ (a0.size : Int) then (number_Parse.j0 k (a0.extract 0 ((ji5) : Int).toNat) (wrap64 (10 * (wrap64 (t114 + 1))))) else (none)) else (number_Parse.j0 k a0 0)) = some (r1, r2) := H
            have A9 := Aside0.mk A90
            clear A90
            by_cases c10 : t114 ≥ 0
            · rw [if_pos c10] at H
              have c10b0 : decide (0 ≤ t114) = true := decide_eq_true c10
              clear c10
              have c11b0 := eq_true (of_decide_eq_true (by first | (with_reducible assumption) | assumption) : 0 ≤ (ji5))
              by_cases c12 : (ji5) ≤ (a0.size : Int)
              · rw [if_pos c12] at H
                have c12b0 := eq_true c12
                have c12b1 : decide ((ji5) ≤ (a0.size : Int)) = true := decide_eq_true c12
                clear c12
                have H' := Aside0.mk H
                clear H
                have p8 : 0 ≤ ((ji5) : Int) := of_decide_eq_true (by first | (with_reducible assumption) | assumption)
                have q8 : (ji5) < (a0.size : Int) := of_decide_eq_true (by first | (with_reducible assumption) | assumption)
                have hx8 := bt_at a0 (ji5)
                replace p8 := eq_true p8
                replace q8 := eq_true q8
                go_wp2_with (first | ((with_reducible refine gate_callee (f := 25) rfl ?_); refine goesL_ (some 16) rfl rfl Tryd.func25 (by kernel_rfl) rfl #[.string (⟨#[75, 77, 71, 84]⟩ : ByteArray), .int .u8 (bt a0 (ji5))] rfl (by (try simp only [List.map_toArray, List.map_cons, List.map_nil]); first | done | (simp only [hji5]; rfl) | rfl | (simp only [List.length_drop, List.length_take]; rfl)) ?_; (with_reducible refine (strings_IndexByte.calls (⟨#[75, 77, 71, 84]⟩ : ByteArray) (bt a0 (ji5)) t114 _ A9.out).mono ?_); rintro e w13 ⟨rfl, hb⟩; refine ⟨_, rfl, ?_⟩; have n0_ := Aside0.mk (below_step (by repeat (first | (with_reducible first | exact HB.out | apply below_alloc | apply pw_below_drewN | apply below_drew1) | exact HB.out)) hb); clear HB; have HB := n0_; clear n0_; (try clear hb); (try clear hb2); (try clear hk); (try clear hi)))
                go_meet
                case rel => exact ⟨_, (a0.extract 0 ((ji5) : Int).toNat), (wrap64 (10 * (wrap64 (t114 + 1)))), (by first | rfl | (simp; done) | (simp only [← hji5] <;> (first | rfl | simp)) | (simp [*]; done)), (by first | rfl | (simp; done) | (simp [*]; done)), H', ⟨by first | omega | exact Nat.le_refl _⟩, ⟨by repeat (first | (with_reducible first | exact HB.out | apply below_alloc | apply pw_below_drewN | apply below_drew1) | exact HB.out)⟩⟩
              · rw [if_neg c12] at H
                exact absurd H (by simp)
            · rw [if_neg c10] at H
              have c10b0 : decide (0 ≤ t114) = false := decide_eq_false c10
              clear c10
              have H' := Aside0.mk H
              clear H
              have p8 : 0 ≤ ((ji5) : Int) := of_decide_eq_true (by first | (with_reducible assumption) | assumption)
              have q8 : (ji5) < (a0.size : Int) := of_decide_eq_true (by first | (with_reducible assumption) | assumption)
              have hx8 := bt_at a0 (ji5)
              replace p8 := eq_true p8
              replace q8 := eq_true q8
              go_wp2_with (first | ((with_reducible refine gate_callee (f := 25) rfl ?_); refine goesL_ (some 16) rfl rfl Tryd.func25 (by kernel_rfl) rfl #[.string (⟨#[75, 77, 71, 84]⟩ : ByteArray), .int .u8 (bt a0 (ji5))] rfl (by (try simp only [List.map_toArray, List.map_cons, List.map_nil]); first | done | (simp only [hji5]; rfl) | rfl | (simp only [List.length_drop, List.length_take]; rfl)) ?_; (with_reducible refine (strings_IndexByte.calls (⟨#[75, 77, 71, 84]⟩ : ByteArray) (bt a0 (ji5)) t114 _ A9.out).mono ?_); rintro e w14 ⟨rfl, hb⟩; refine ⟨_, rfl, ?_⟩; have n0_ := Aside0.mk (below_step (by repeat (first | (with_reducible first | exact HB.out | apply below_alloc | apply pw_below_drewN | apply below_drew1) | exact HB.out)) hb); clear HB; have HB := n0_; clear n0_; (try clear hb); (try clear hb2); (try clear hk); (try clear hi)))
              go_meet
              case rel => exact ⟨_, (a0), (0), (by first | rfl | (simp; done) | (simp [*]; done)), (by first | rfl | (simp; done) | (simp [*]; done)), H', ⟨by first | omega | exact Nat.le_refl _⟩, ⟨by repeat (first | (with_reducible first | exact HB.out | apply below_alloc | apply pw_below_drewN | apply below_drew1) | exact HB.out)⟩⟩
          · rw [if_neg c7] at H
            exact absurd H (by simp)
        · rw [if_neg c6] at H
          exact absurd H (by simp)
    case rest =>
      clear HC3
      try clear c1
      try clear c2
      try clear c2b0
      try clear c2b1
      try clear p2
      try clear c4
      try clear c4b0
      try clear c4b1
      try clear c6
      try clear c6b0
      try clear p6
      try clear c7
      try clear c7b0
      try clear p8
      try clear q8
      try clear hx8
      try clear c10
      try clear c10b0
      try clear c11
      try clear c11b0
      try clear c12
      try clear c12b0
      try clear c12b1
      try clear c13
      try clear p8
      try clear q8
      obtain ⟨kq, x0_2, x4_2, rfl, rfl, HA, HJ2, HB⟩ := hcut
      cases kq with
      | zero => exact absurd HA.out (by simp [number_Parse.j0])
      | succ kj2 =>
        have H := HA.out
        clear HA
        simp only [number_Parse.j0] at H
        replace H := Option.bind_eq_some_iff.mp H
        obtain ⟨t115, A150, H⟩ := H
        replace H : (if t115 = true then ((number_value.f x0_2 1099511627777).bind fun t116 => (if 0 ≤ x4_2 then (if t116 > (shr .i64 1099511627776 x4_2) then (some (0, 3)) else (some (shl .i64 t116 x4_2, 0))) else (none))) else (some (0, 2))) = some (r1, r2) := H
        have A15 := Aside0.mk A150
        clear A150
        by_cases c16 : t115 = true
        · subst c16
          have H1 : ((number_value.f x0_2 1099511627777).bind fun t116 => (if 0 ≤ x4_2 then (if t116 > (shr .i64 1099511627776 x4_2) then (some (0, 3)) else (some (shl .i64 t116 x4_2, 0))) else (none))) = some (r1, r2) := by rw [if_pos rfl] at H; exact H
          clear H
          have H := H1
          clear H1
          replace H := Option.bind_eq_some_iff.mp H
          obtain ⟨t116, A170, H⟩ := H
          replace H : (if 0 ≤ x4_2 then (if t116 > (shr .i64 1099511627776 x4_2) then (some (0, 3)) else (some (shl .i64 t116 x4_2, 0))) else (none)) = some (r1, r2) := H
          have A17 := Aside0.mk A170
          clear A170
          by_cases c18 : 0 ≤ x4_2
          · rw [if_pos c18] at H
            have c18b0 := eq_true c18
            have c18b1 : decide (0 ≤ x4_2) = true := decide_eq_true c18
            clear c18
            obtain ⟨ji19, hji19⟩ : ∃ j_ : Int, (shr .i64 1099511627776 x4_2) = j_ := ⟨_, rfl⟩
            replace H : (if t116 > (ji19) then (some (0, 3)) else (some (shl .i64 t116 x4_2, 0))) = some (r1, r2) := by first | (rw [hji19] at H; exact H) | (simp only [hji19] at H ⊢; exact H)
            (try rw [hji19] at A15)
            (try rw [hji19] at A17)
            have hji19_ : (1099511627776 / 2 ^ min x4_2.toNat 64) = ji19 := hji19
            have hji19z : x4_2 ≤ 64 → (1099511627776 / 2 ^ x4_2.toNat) = ji19 := shr_small hji19
            by_cases c20 : t116 > (ji19)
            · rw [if_pos c20] at H
              have c20b0 : decide ((ji19) < t116) = true := decide_eq_true c20
              clear c20
              simp only [Option.some.injEq, Prod.mk.injEq] at H
              obtain ⟨rfl, rfl⟩ := H
              go_wp2_with (first | ((with_reducible refine gate_callee (f := 22) rfl ?_); refine goesL_ (some 28) rfl rfl Tryd.func22 (by kernel_rfl) rfl #[.string x0_2] rfl (by (try simp only [List.map_toArray, List.map_cons, List.map_nil]); first | done | rfl | (simp only [List.length_drop, List.length_take]; rfl)) ?_; (with_reducible refine (number_digits.calls x0_2 true _ A15.out).mono ?_); rintro e w21 ⟨rfl, hb⟩; refine ⟨_, rfl, ?_⟩; have n0_ := Aside0.mk (below_step (by repeat (first | (with_reducible first | exact HB.out | apply below_alloc | apply pw_below_drewN | apply below_drew1) | exact HB.out)) hb); clear HB; have HB := n0_; clear n0_; (try clear hb); (try clear hb2); (try clear hk); (try clear hi)) | ((with_reducible refine gate_callee (f := 23) rfl ?_); refine goesL_ (some 31) rfl rfl Tryd.func23 (by kernel_rfl) rfl #[.string x0_2, .int .i64 1099511627777] rfl (by (try simp only [List.map_toArray, List.map_cons, List.map_nil]); first | done | rfl | (simp only [List.length_drop, List.length_take]; rfl)) ?_; (with_reducible refine (number_value.calls x0_2 1099511627777 t116 _ A17.out).mono ?_); rintro e w22 ⟨rfl, hb⟩; refine ⟨_, rfl, ?_⟩; have n0_ := Aside0.mk (below_step (by repeat (first | (with_reducible first | exact HB.out | apply below_alloc | apply pw_below_drewN | apply below_drew1) | exact HB.out)) hb); clear HB; have HB := n0_; clear n0_; (try clear hb); (try clear hb2); (try clear hk); (try clear hi)))
              go_ret2
              exact ⟨by first | rfl | (simp [errW_none, errW_some] <;> rfl) | (simp only [← hji19]; first | rfl | (simp [errW_none, errW_some] <;> rfl)) | (simp [*, errW_none, errW_some] <;> rfl), by repeat (first | (with_reducible first | exact HB.out | apply below_alloc | apply pw_below_drewN | apply below_drew1) | exact HB.out)⟩
            · rw [if_neg c20] at H
              have c20b0 : decide ((ji19) < t116) = false := decide_eq_false c20
              clear c20
              have c23b0 := eq_true (of_decide_eq_true (by first | (with_reducible assumption) | assumption) : 0 ≤ x4_2)
              obtain ⟨ji24, hji24⟩ : ∃ j_ : Int, (shl .i64 t116 x4_2) = j_ := ⟨_, rfl⟩
              replace H : (some (ji24, 0)) = some (r1, r2) := by first | (rw [hji24] at H; exact H) | (simp only [hji24] at H ⊢; exact H)
              (try rw [hji24] at A15)
              (try rw [hji24] at A17)
              have hji24_ : (IntKind.i64.wrap (t116 * 2 ^ min x4_2.toNat 64)) = ji24 := hji24
              have hji24z : x4_2 ≤ 64 → (IntKind.i64.wrap (t116 * 2 ^ x4_2.toNat)) = ji24 := shl_small hji24
              have hji24y : (wrap64 (t116 * 2 ^ min x4_2.toNat 64)) = ji24 := (i64_w _).symm.trans hji24_
              have hji24x : x4_2 ≤ 64 → (wrap64 (t116 * 2 ^ x4_2.toNat)) = ji24 := fun h_ => (i64_w _).symm.trans (hji24z h_)
              simp only [Option.some.injEq, Prod.mk.injEq] at H
              obtain ⟨rfl, rfl⟩ := H
              go_wp2_with (first | ((with_reducible refine gate_callee (f := 22) rfl ?_); refine goesL_ (some 28) rfl rfl Tryd.func22 (by kernel_rfl) rfl #[.string x0_2] rfl (by (try simp only [List.map_toArray, List.map_cons, List.map_nil]); first | done | rfl | (simp only [List.length_drop, List.length_take]; rfl)) ?_; (with_reducible refine (number_digits.calls x0_2 true _ A15.out).mono ?_); rintro e w25 ⟨rfl, hb⟩; refine ⟨_, rfl, ?_⟩; have n0_ := Aside0.mk (below_step (by repeat (first | (with_reducible first | exact HB.out | apply below_alloc | apply pw_below_drewN | apply below_drew1) | exact HB.out)) hb); clear HB; have HB := n0_; clear n0_; (try clear hb); (try clear hb2); (try clear hk); (try clear hi)) | ((with_reducible refine gate_callee (f := 23) rfl ?_); refine goesL_ (some 31) rfl rfl Tryd.func23 (by kernel_rfl) rfl #[.string x0_2, .int .i64 1099511627777] rfl (by (try simp only [List.map_toArray, List.map_cons, List.map_nil]); first | done | rfl | (simp only [List.length_drop, List.length_take]; rfl)) ?_; (with_reducible refine (number_value.calls x0_2 1099511627777 t116 _ A17.out).mono ?_); rintro e w26 ⟨rfl, hb⟩; refine ⟨_, rfl, ?_⟩; have n0_ := Aside0.mk (below_step (by repeat (first | (with_reducible first | exact HB.out | apply below_alloc | apply pw_below_drewN | apply below_drew1) | exact HB.out)) hb); clear HB; have HB := n0_; clear n0_; (try clear hb); (try clear hb2); (try clear hk); (try clear hi)))
              go_ret2
              exact ⟨by first | rfl | (simp [errW_none, errW_some] <;> rfl) | (simp only [← hji19, ← hji24]; first | rfl | (simp [errW_none, errW_some] <;> rfl)) | (simp [*, errW_none, errW_some] <;> rfl), by repeat (first | (with_reducible first | exact HB.out | apply below_alloc | apply pw_below_drewN | apply below_drew1) | exact HB.out)⟩
          · rw [if_neg c18] at H
            exact absurd H (by simp)
        · replace c16 := Bool.eq_false_iff.mpr c16
          subst c16
          have H1 : (some (0, 2)) = some (r1, r2) := by rw [if_neg (show ¬ (false = true) by decide)] at H; exact H
          clear H
          have H := H1
          clear H1
          simp only [Option.some.injEq, Prod.mk.injEq] at H
          obtain ⟨rfl, rfl⟩ := H
          go_wp2_with (first | ((with_reducible refine gate_callee (f := 22) rfl ?_); refine goesL_ (some 28) rfl rfl Tryd.func22 (by kernel_rfl) rfl #[.string x0_2] rfl (by (try simp only [List.map_toArray, List.map_cons, List.map_nil]); first | done | rfl | (simp only [List.length_drop, List.length_take]; rfl)) ?_; (with_reducible refine (number_digits.calls x0_2 false _ A15.out).mono ?_); rintro e w27 ⟨rfl, hb⟩; refine ⟨_, rfl, ?_⟩; have n0_ := Aside0.mk (below_step (by repeat (first | (with_reducible first | exact HB.out | apply below_alloc | apply pw_below_drewN | apply below_drew1) | exact HB.out)) hb); clear HB; have HB := n0_; clear n0_; (try clear hb); (try clear hb2); (try clear hk); (try clear hi)))
          go_ret2
          exact ⟨by first | rfl | (simp [errW_none, errW_some] <;> rfl) | (simp [*, errW_none, errW_some] <;> rfl), by repeat (first | (with_reducible first | exact HB.out | apply below_alloc | apply pw_below_drewN | apply below_drew1) | exact HB.out)⟩

end Go.Proofs.YtgfbamddaepebaaDoor.PN
