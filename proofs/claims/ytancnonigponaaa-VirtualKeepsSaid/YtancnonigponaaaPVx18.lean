/- Contracts of functions of the program and of its references, over the translation, for values that can be read as data: each call comes to what a Lean function says. Written by the kit's printer and a program of this session's, with hand-made contracts spliced in. -/
import Derived.Test.YtancnonigponaaaPVx0
import Derived.Test.YtancnonigponaaaPVx17
namespace Go.Proofs.Ytancnonigponaaa.PV
open Go.RowKit Go.Proofs.YtancnonigponaaaW.PrintWords Go.Proofs.YtancnonigponaaaW.PrintLast Go.Proofs.YtancnonigponaaaW.PrintMore
attribute [local go_sem] max2_int min2_int max_two min_two max_three min_three max_four min_four   -- for this text's walks alone
set_option linter.unusedVariables false
set_option linter.unusedSimpArgs false

/-! ### groupcontrolmade_Dice_Next: function 14 -/
def groupcontrolmade_Dice_Next.j0 : Nat → Int → Bool → List Int → Int → Option (Int × Int)
  | 0, _, _, _, _ => none
  | k + 1, x1, x19, x1000, x1001 => if x19 = true then (some (0, x1001)) else (if 0 ≤ (wrap64 ((wrap64 (x1001 + 1)) - 1)) then (if (wrap64 ((wrap64 (x1001 + 1)) - 1)) < (x1000.length : Int) then (if x1 = 0 then (none) else (if (Int.tmod (rd x1000 (wrap64 ((wrap64 (x1001 + 1)) - 1))) x1) < 0 then (some (wrap64 ((Int.tmod (rd x1000 (wrap64 ((wrap64 (x1001 + 1)) - 1))) x1) + x1), wrap64 (x1001 + 1))) else (some (Int.tmod (rd x1000 (wrap64 ((wrap64 (x1001 + 1)) - 1))) x1, wrap64 (x1001 + 1))))) else (none)) else (none))
def groupcontrolmade_Dice_Next.f (k : Nat) (s0_0 : List Int) (s0_1 : Int) (a1 : Int) : Option (Int × Int) := if s0_1 ≥ (s0_0.length : Int) then (groupcontrolmade_Dice_Next.j0 k a1 true s0_0 s0_1) else (groupcontrolmade_Dice_Next.j0 k a1 (decide (a1 < 1)) s0_0 s0_1)
theorem groupcontrolmade_Dice_Next.mono_l : ∀ k, (∀ y0 y1 y2 y3, LeO (groupcontrolmade_Dice_Next.j0 k y0 y1 y2 y3) (groupcontrolmade_Dice_Next.j0 (k + 1) y0 y1 y2 y3))
  | 0 => fun _ _ _ _ r h => by simp [groupcontrolmade_Dice_Next.j0] at h
  | k + 1 => by
    have ih0 := groupcontrolmade_Dice_Next.mono_l k
    · intro y0 y1 y2 y3
      unfold groupcontrolmade_Dice_Next.j0
      repeat' first
      | (with_reducible exact ih0 _ _ _ _)
      | (with_reducible exact LeO.refl _)
      | (with_reducible exact LeO.none _)
      | (with_reducible refine LeO.ite ?_ ?_)
      | (with_reducible refine LeO.bind ?_ (fun _ => ?_))
      | exact ih0 _ _ _ _
      | exact LeO.none _
      | refine LeO.ite ?_ ?_
      | refine LeO.bind ?_ (fun _ => ?_)
theorem groupcontrolmade_Dice_Next.mono : ∀ a0 a1 a2 k, LeO (groupcontrolmade_Dice_Next.f k a0 a1 a2) (groupcontrolmade_Dice_Next.f (k + 1) a0 a1 a2) := by
  intro a0 a1 a2 k
  have ih0 := groupcontrolmade_Dice_Next.mono_l k
  unfold groupcontrolmade_Dice_Next.f
  repeat' first
      | (with_reducible exact ih0 _ _ _ _)
      | (with_reducible exact LeO.refl _)
      | (with_reducible exact LeO.none _)
      | (with_reducible refine LeO.ite ?_ ?_)
      | (with_reducible refine LeO.bind ?_ (fun _ => ?_))
      | exact ih0 _ _ _ _
      | exact LeO.none _
      | refine LeO.ite ?_ ?_
      | refine LeO.bind ?_ (fun _ => ?_)
set_option maxHeartbeats 8000000 in
set_option maxRecDepth 100000 in
theorem groupcontrolmade_Dice_Next.calls (k : Nat) (g : Nat) (s0_0 : List Int) (s0_1 : Int) (a1 : Int) (r1 : Int) (r2 : Int) (w0 w : World) (hI : IsS57 w0 w g s0_0 s0_1) (hB : Below w0.heap.size w0 w) (h : groupcontrolmade_Dice_Next.f k s0_0 s0_1 a1 = some (r1, r2)) :
    Calls Try.prog 14 #[.pointer (some ⟨g, 0, none⟩), .int .i64 a1] w fun e w' => e = .returned (.int .i64 r1) ∧ IsS57 w0 w' g s0_0 r2 ∧ Below w0.heap.size w0 w' ∧ KeepBut w w' g none := by
  have HI0 := Aside0.mk hI
  have HK := Aside0.mk (KeepBut.refl w g none)
  have HL := Aside0.mk hB.size
  clear hI
  have HW0 := Aside0.mk hB.size
  have HB := Aside0.mk hB
  clear hB
  have H : (if s0_1 ≥ (s0_0.length : Int) then (groupcontrolmade_Dice_Next.j0 k a1 true s0_0 s0_1) else (groupcontrolmade_Dice_Next.j0 k a1 (decide (a1 < 1)) s0_0 s0_1)) = some (r1, r2) := h
  clear h
  have HC3 := Aside0.mk H
  clear H
  go_enter Try.func14, Try.ntmps14
  go_upto_region 1 with (fail)
  repeat (go_quiet (fail); go_upto_region 1 with (fail))
  go_cut [19] (fun v19 wc => ∃ (kq : Nat) (x19_2 : Bool), v19 = .bool x19_2 ∧ Aside0 (groupcontrolmade_Dice_Next.j0 kq a1 x19_2 s0_0 s0_1 = some (r1, r2)) ∧ Aside0 (kq ≤ k) ∧ Aside0 (IsS57 w0 wc g s0_0 s0_1) ∧ Aside0 (KeepBut w wc g none) ∧ Aside0 (Below w0.heap.size w0 wc))
  case first =>
    have H := HC3.out
    clear HC3
    by_cases c4 : s0_1 ≥ (s0_0.length : Int)
    · rw [if_pos c4] at H
      have c4b0 : decide ((s0_0.length : Int) ≤ s0_1) = true := decide_eq_true c4
      clear c4
      (first | rw [c4b0] | (simp only [i64_w, i32_w]; rw [c4b0]) | skip)
      have H' := Aside0.mk H
      clear H
      obtain ⟨ASz5_0, cSz5_0, HGz5, hgz5, HSz5_0⟩ := HI0.out
      have hcz5_0 := cellS57_0 HGz5
      have hcz5_1 := cellS57_1 HGz5
      have hfz5_1 := blk_frozen HGz5 1
      clear HGz5 hgz5
      go_wp2
      repeat (go_quiet (fail); try go_wp2)
      go_meet
      case rel => exact ⟨_, (true), (by first | rfl | (simp; done) | (simp [*]; done)), H', ⟨by first | omega | exact Nat.le_refl _⟩, ⟨by repeat (first | (with_reducible first | exact HI0.out | apply IsS57.alloc | apply IsS57.drewN | apply IsS57.drew | apply IsS57.set_1) | exact HI0.out)⟩, ⟨by repeat (first | (with_reducible first | exact HK.out | apply KeepBut.set_ | apply keep_drewN | apply keep_drew | apply keep_alloc) | exact HK.out)⟩, ⟨by repeat (first | (with_reducible first | exact HB.out | apply below_alloc | apply pw_below_drewN | apply below_drew1 | refine below_set ?_ (IsS57.ge HI0.out)) | exact HB.out)⟩⟩
    · rw [if_neg c4] at H
      have c4b0 : decide ((s0_0.length : Int) ≤ s0_1) = false := decide_eq_false c4
      clear c4
      (first | rw [c4b0] | (simp only [i64_w, i32_w]; rw [c4b0]) | skip)
      have H' := Aside0.mk H
      clear H
      obtain ⟨ASz6_0, cSz6_0, HGz6, hgz6, HSz6_0⟩ := HI0.out
      have hcz6_0 := cellS57_0 HGz6
      have hcz6_1 := cellS57_1 HGz6
      have hfz6_1 := blk_frozen HGz6 1
      clear HGz6 hgz6
      go_wp2
      repeat (go_quiet (fail); try go_wp2)
      go_meet
      case rel => exact ⟨_, (decide (a1 < 1)), (by first | rfl | (simp; done) | (simp [*]; done)), H', ⟨by first | omega | exact Nat.le_refl _⟩, ⟨by repeat (first | (with_reducible first | exact HI0.out | apply IsS57.alloc | apply IsS57.drewN | apply IsS57.drew | apply IsS57.set_1) | exact HI0.out)⟩, ⟨by repeat (first | (with_reducible first | exact HK.out | apply KeepBut.set_ | apply keep_drewN | apply keep_drew | apply keep_alloc) | exact HK.out)⟩, ⟨by repeat (first | (with_reducible first | exact HB.out | apply below_alloc | apply pw_below_drewN | apply below_drew1 | refine below_set ?_ (IsS57.ge HI0.out)) | exact HB.out)⟩⟩
  case rest =>
    clear HC3
    try clear c1
    try clear p2
    try clear c4
    try clear c4b0
    try clear hcz5_0
    try clear hcz5_1
    try clear hcz6_0
    try clear hcz6_1
    try clear hfz5_1
    try clear hfz6_1
    obtain ⟨kq, x19_2, rfl, HA, HJ2, HI0, HK, HB⟩ := hcut
    cases kq with
    | zero => exact absurd HA.out (by simp [groupcontrolmade_Dice_Next.j0])
    | succ kj2 =>
      have H := HA.out
      clear HA
      simp only [groupcontrolmade_Dice_Next.j0] at H
      by_cases c7 : x19_2 = true
      · subst c7
        have H1 : (some (0, s0_1)) = some (r1, r2) := by rw [if_pos rfl] at H; exact H
        clear H
        have H := H1
        clear H1
        simp only [Option.some.injEq, Prod.mk.injEq] at H
        obtain ⟨rfl, rfl⟩ := H
        go_wp2
        repeat (go_quiet (fail); try go_wp2)
        go_ret
        exact ⟨by first | rfl | (simp [errW_none, errW_some] <;> rfl) | (simp [*, errW_none, errW_some] <;> rfl), by repeat (first | (with_reducible first | exact HI0.out | apply IsS57.alloc | apply IsS57.drewN | apply IsS57.drew | apply IsS57.set_1) | exact HI0.out), by repeat (first | (with_reducible first | exact HB.out | apply below_alloc | apply pw_below_drewN | apply below_drew1 | refine below_set ?_ (IsS57.ge HI0.out)) | exact HB.out), by repeat (first | (with_reducible first | exact HK.out | apply KeepBut.set_ | apply keep_drewN | apply keep_drew | apply keep_alloc) | exact HK.out)⟩
      · replace c7 := Bool.eq_false_iff.mpr c7
        subst c7
        have H1 : (if 0 ≤ (wrap64 ((wrap64 (s0_1 + 1)) - 1)) then (if (wrap64 ((wrap64 (s0_1 + 1)) - 1)) < (s0_0.length : Int) then (if a1 = 0 then (none) else (if (Int.tmod (rd s0_0 (wrap64 ((wrap64 (s0_1 + 1)) - 1))) a1) < 0 then (some (wrap64 ((Int.tmod (rd s0_0 (wrap64 ((wrap64 (s0_1 + 1)) - 1))) a1) + a1), wrap64 (s0_1 + 1))) else (some (Int.tmod (rd s0_0 (wrap64 ((wrap64 (s0_1 + 1)) - 1))) a1, wrap64 (s0_1 + 1))))) else (none)) else (none)) = some (r1, r2) := by rw [if_neg (show ¬ (false = true) by decide)] at H; exact H
        clear H
        have H := H1
        clear H1
        obtain ⟨ji8, hji8⟩ : ∃ j_ : Int, (wrap64 ((wrap64 (s0_1 + 1)) - 1)) = j_ := ⟨_, rfl⟩
        replace H : (if 0 ≤ (ji8) then (if (ji8) < (s0_0.length : Int) then (if a1 = 0 then (none) else (if (Int.tmod (rd s0_0 (ji8)) a1) < 0 then (some (wrap64 ((Int.tmod (rd s0_0 (ji8)) a1) + a1), wrap64 (s0_1 + 1))) else (some (Int.tmod (rd s0_0 (ji8)) a1, wrap64 (s0_1 + 1))))) else (none)) else (none)) = some (r1, r2) := by first | (rw [hji8] at H; exact H) | (simp only [hji8] at H ⊢; exact H)
        have hji8w : (IntKind.i64.wrap ((wrap64 (s0_1 + 1)) - 1)) = ji8 := (i64_w _).trans hji8
        by_cases c9 : 0 ≤ (ji8)
        · rw [if_pos c9] at H
          have c9b0 : decide (0 ≤ (ji8)) = true := decide_eq_true c9
          clear c9
          by_cases c10 : (ji8) < (s0_0.length : Int)
          · rw [if_pos c10] at H
            have c10b0 : decide ((ji8) < (s0_0.length : Int)) = true := decide_eq_true c10
            clear c10
            by_cases c11 : a1 = 0
            · rw [if_pos c11] at H
              exact absurd H (by simp)
            · rw [if_neg c11] at H
              have c11b0 : (a1 == 0) = false := beq_eq_false_iff_ne.mpr c11
              have c11b1 : (a1 != 0) = true := bne_iff_ne.mpr c11
              by_cases c12 : (Int.tmod (rd s0_0 (ji8)) a1) < 0
              · rw [if_pos c12] at H
                have c12b0 : decide ((Int.tmod (rd s0_0 (ji8)) a1) < 0) = true := decide_eq_true c12
                clear c12
                simp only [Option.some.injEq, Prod.mk.injEq] at H
                obtain ⟨rfl, rfl⟩ := H
                obtain ⟨ASz13_0, cSz13_0, HGz13, hgz13, HSz13_0⟩ := HI0.out
                have hcz13_0 := cellS57_0 HGz13
                have hcz13_1 := cellS57_1 HGz13
                have hfz13_1 := blk_frozen HGz13 1
                clear HGz13 hgz13
                have p150 : 0 ≤ ((ji8) : Int) := of_decide_eq_true (by first | (with_reducible assumption) | assumption)
                have q150 : (ji8) < (s0_0.length : Int) := of_decide_eq_true (by first | (with_reducible assumption) | assumption)
                obtain ⟨ad150, e150, hx150_0⟩ := Kd.at_int HSz13_0 (ji8) p150 q150
                cases e150
                have hn150_0 : ad150.block ≠ g := Nat.ne_of_lt (Nat.lt_of_lt_of_le (by have := World.block_lt_of_cell? _ _ hx150_0; first | rwa [add_block] at this | exact this) (IsS57.ge HI0.out))
                replace hx150_0 := pw_cell_below HB.out hx150_0
                replace hx150_0 := (cell_far (p := ⟨g, 1, none⟩) (by first | (rw [add_block]; exact hn150_0) | (show (Addr.add _ _).block ≠ _; rw [add_block]; exact hn150_0) | exact hn150_0) (.int .i64 (wrap64 (s0_1 + 1)))).trans hx150_0
                (try have hy150_0 := fun (n_ : Nat) => (show (((wc.drewN n_).setCell ⟨g, 1, none⟩ (.int .i64 (wrap64 (s0_1 + 1))))).cell? _ = some _ from hx150_0))
                clear hn150_0
                replace p150 := eq_true p150
                replace q150 := eq_true q150
                go_wp2
                repeat (go_quiet (fail); try go_wp2)
                go_ret
                exact ⟨by first | rfl | (simp [errW_none, errW_some] <;> rfl) | (simp only [← hji8]; first | rfl | (simp [errW_none, errW_some] <;> rfl)) | (simp [*, errW_none, errW_some] <;> rfl), by repeat (first | (with_reducible first | exact HI0.out | apply IsS57.alloc | apply IsS57.drewN | apply IsS57.drew | apply IsS57.set_1) | exact HI0.out), by repeat (first | (with_reducible first | exact HB.out | apply below_alloc | apply pw_below_drewN | apply below_drew1 | refine below_set ?_ (IsS57.ge HI0.out)) | exact HB.out), by repeat (first | (with_reducible first | exact HK.out | apply KeepBut.set_ | apply keep_drewN | apply keep_drew | apply keep_alloc) | exact HK.out)⟩
              · rw [if_neg c12] at H
                have c12b0 : decide ((Int.tmod (rd s0_0 (ji8)) a1) < 0) = false := decide_eq_false c12
                clear c12
                simp only [Option.some.injEq, Prod.mk.injEq] at H
                obtain ⟨rfl, rfl⟩ := H
                obtain ⟨ASz14_0, cSz14_0, HGz14, hgz14, HSz14_0⟩ := HI0.out
                have hcz14_0 := cellS57_0 HGz14
                have hcz14_1 := cellS57_1 HGz14
                have hfz14_1 := blk_frozen HGz14 1
                clear HGz14 hgz14
                have p150 : 0 ≤ ((ji8) : Int) := of_decide_eq_true (by first | (with_reducible assumption) | assumption)
                have q150 : (ji8) < (s0_0.length : Int) := of_decide_eq_true (by first | (with_reducible assumption) | assumption)
                obtain ⟨ad150, e150, hx150_0⟩ := Kd.at_int HSz14_0 (ji8) p150 q150
                cases e150
                have hn150_0 : ad150.block ≠ g := Nat.ne_of_lt (Nat.lt_of_lt_of_le (by have := World.block_lt_of_cell? _ _ hx150_0; first | rwa [add_block] at this | exact this) (IsS57.ge HI0.out))
                replace hx150_0 := pw_cell_below HB.out hx150_0
                replace hx150_0 := (cell_far (p := ⟨g, 1, none⟩) (by first | (rw [add_block]; exact hn150_0) | (show (Addr.add _ _).block ≠ _; rw [add_block]; exact hn150_0) | exact hn150_0) (.int .i64 (wrap64 (s0_1 + 1)))).trans hx150_0
                (try have hy150_0 := fun (n_ : Nat) => (show (((wc.drewN n_).setCell ⟨g, 1, none⟩ (.int .i64 (wrap64 (s0_1 + 1))))).cell? _ = some _ from hx150_0))
                clear hn150_0
                replace p150 := eq_true p150
                replace q150 := eq_true q150
                go_wp2
                repeat (go_quiet (fail); try go_wp2)
                go_ret
                exact ⟨by first | rfl | (simp [errW_none, errW_some] <;> rfl) | (simp only [← hji8]; first | rfl | (simp [errW_none, errW_some] <;> rfl)) | (simp [*, errW_none, errW_some] <;> rfl), by repeat (first | (with_reducible first | exact HI0.out | apply IsS57.alloc | apply IsS57.drewN | apply IsS57.drew | apply IsS57.set_1) | exact HI0.out), by repeat (first | (with_reducible first | exact HB.out | apply below_alloc | apply pw_below_drewN | apply below_drew1 | refine below_set ?_ (IsS57.ge HI0.out)) | exact HB.out), by repeat (first | (with_reducible first | exact HK.out | apply KeepBut.set_ | apply keep_drewN | apply keep_drew | apply keep_alloc) | exact HK.out)⟩
          · rw [if_neg c10] at H
            exact absurd H (by simp)
        · rw [if_neg c9] at H
          exact absurd H (by simp)

end Go.Proofs.Ytancnonigponaaa.PV
