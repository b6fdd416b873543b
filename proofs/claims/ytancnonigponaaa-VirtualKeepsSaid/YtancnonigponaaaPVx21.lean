/- Contracts of functions of the program and of its references, over the translation, for values that can be read as data: each call comes to what a Lean function says. Written by the kit's printer and a program of this session's, with hand-made contracts spliced in. -/
import Derived.Test.YtancnonigponaaaPVx0
import Derived.Test.YtancnonigponaaaPVx17
import Derived.Test.YtancnonigponaaaPVx18
namespace Go.Proofs.Ytancnonigponaaa.PV
open Go.RowKit Go.Proofs.YtancnonigponaaaW.PrintWords Go.Proofs.YtancnonigponaaaW.PrintLast Go.Proofs.YtancnonigponaaaW.PrintMore
attribute [local go_sem] max2_int min2_int max_two min_two max_three min_three max_four min_four   -- for this text's walks alone
set_option linter.unusedVariables false
set_option linter.unusedSimpArgs false

/-! ### groupcontrolmade_Dice_Weight: function 26 -/
def groupcontrolmade_Dice_Weight.f (k : Nat) (s0_0 : List Int) (s0_1 : Int) : Option (Int × Int) := (groupcontrolmade_Dice_Next.f k s0_0 s0_1 1000).bind fun bt151 => ((some (([1, 100, 300, 10000, 50, 200, 7, wrap64 (1 + bt151.1)] : List Int) : List Int)).bind fun y153 => ((groupcontrolmade_Dice_Next.f k s0_0 bt151.2 8).bind fun bt156 => (if 0 ≤ bt156.1 then (if bt156.1 < (y153.length : Int) then (some (rd y153 bt156.1, bt156.2)) else (none)) else (none))))
theorem groupcontrolmade_Dice_Weight.mono : ∀ a0 a1 k, LeO (groupcontrolmade_Dice_Weight.f k a0 a1) (groupcontrolmade_Dice_Weight.f (k + 1) a0 a1) := by
  intro a0 a1 k
  unfold groupcontrolmade_Dice_Weight.f
  repeat' first
      | (with_reducible exact groupcontrolmade_Dice_Next.mono _ _ _ _)
      | (with_reducible exact LeO.refl _)
      | (with_reducible exact LeO.none _)
      | (with_reducible refine LeO.ite ?_ ?_)
      | (with_reducible refine LeO.bind ?_ (fun _ => ?_))
      | exact groupcontrolmade_Dice_Next.mono _ _ _ _
      | exact LeO.none _
      | refine LeO.ite ?_ ?_
      | refine LeO.bind ?_ (fun _ => ?_)
set_option maxHeartbeats 8000000 in
set_option maxRecDepth 100000 in
theorem groupcontrolmade_Dice_Weight.calls (k : Nat) (g : Nat) (s0_0 : List Int) (s0_1 : Int) (r1 : Int) (r2 : Int) (w0 w : World) (hI : IsS57 w0 w g s0_0 s0_1) (hB : Below w0.heap.size w0 w) (h : groupcontrolmade_Dice_Weight.f k s0_0 s0_1 = some (r1, r2)) :
    Calls Try.prog 26 #[.pointer (some ⟨g, 0, none⟩)] w fun e w' => e = .returned (.int .i64 r1) ∧ IsS57 w0 w' g s0_0 r2 ∧ Below w0.heap.size w0 w' ∧ KeepBut w w' g none := by
  have HI0 := Aside0.mk hI
  have HK := Aside0.mk (KeepBut.refl w g none)
  have HL := Aside0.mk hB.size
  clear hI
  have HW0 := Aside0.mk hB.size
  have HB := Aside0.mk hB
  clear hB
  have H : ((groupcontrolmade_Dice_Next.f k s0_0 s0_1 1000).bind fun bt151 => ((some (([1, 100, 300, 10000, 50, 200, 7, wrap64 (1 + bt151.1)] : List Int) : List Int)).bind fun y153 => ((groupcontrolmade_Dice_Next.f k s0_0 bt151.2 8).bind fun bt156 => (if 0 ≤ bt156.1 then (if bt156.1 < (y153.length : Int) then (some (rd y153 bt156.1, bt156.2)) else (none)) else (none))))) = some (r1, r2) := h
  clear h
  replace H := Option.bind_eq_some_iff.mp H
  obtain ⟨⟨t151, t152⟩, A20, H⟩ := H
  replace H : ((some (([1, 100, 300, 10000, 50, 200, 7, wrap64 (1 + t151)] : List Int) : List Int)).bind fun y153 => ((groupcontrolmade_Dice_Next.f k s0_0 t152 8).bind fun bt156 => (if 0 ≤ bt156.1 then (if bt156.1 < (y153.length : Int) then (some (rd y153 bt156.1, bt156.2)) else (none)) else (none)))) = some (r1, r2) := H
  have A2 := Aside0.mk A20
  clear A20
  obtain ⟨y153, hy153⟩ : ∃ y_ : List Int, y_ = (([1, 100, 300, 10000, 50, 200, 7, wrap64 (1 + t151)] : List Int)) := ⟨_, rfl⟩
  replace H : ((groupcontrolmade_Dice_Next.f k s0_0 t152 8).bind fun bt156 => (if 0 ≤ bt156.1 then (if bt156.1 < (y153.length : Int) then (some (rd y153 bt156.1, bt156.2)) else (none)) else (none))) = some (r1, r2) := by first | (rw [hy153]; with_reducible exact H) | (have H2_ := (Option.bind_some _ _).symm.trans H; rw [hy153]; with_reducible exact H2_) | (have H2_ := (Option.bind_some _ _).symm.trans H; with_reducible exact H2_) | with_reducible exact H | (rw [hy153]; exact H) | exact H
  have Ny153 := Aside0.mk hy153
  clear hy153
  replace H := Option.bind_eq_some_iff.mp H
  obtain ⟨⟨t156, t157⟩, A30, H⟩ := H
  replace H : (if 0 ≤ t156 then (if t156 < (y153.length : Int) then (some (rd y153 t156, t157)) else (none)) else (none)) = some (r1, r2) := H
  have A3 := Aside0.mk A30
  clear A30
  by_cases c4 : 0 ≤ t156
  · rw [if_pos c4] at H
    have c4b0 : decide (0 ≤ t156) = true := decide_eq_true c4
    clear c4
    by_cases c5 : t156 < (y153.length : Int)
    · rw [if_pos c5] at H
      have c5b0 : decide (t156 < (y153.length : Int)) = true := decide_eq_true c5
      clear c5
      simp only [Option.some.injEq, Prod.mk.injEq] at H
      obtain ⟨rfl, rfl⟩ := H
      go_enter Try.func26, Try.ntmps26
      go_wp2_with (first | ((with_reducible refine gate_callee (f := 14) rfl ?_); refine goesL_ (some 4) rfl rfl Try.func14 (by kernel_rfl) rfl #[.pointer (some ⟨g, 0, none⟩), .int .i64 1000] rfl (by (try simp only [List.map_toArray, List.map_cons, List.map_nil]); first | done | rfl | (simp only [List.length_drop, List.length_take]; rfl)) ?_; (with_reducible refine (groupcontrolmade_Dice_Next.calls k g s0_0 s0_1 1000 t151 t152 w0 _ ?side1 ?side2 A2.out).mono ?_); (case side1 => repeat (first | (with_reducible first | exact HI0.out | apply IsS57.alloc | apply IsS57.drewN | apply IsS57.drew | apply IsS57.set_1) | exact HI0.out)); (case side2 => repeat (first | (with_reducible first | exact HB.out | apply below_alloc | apply pw_below_drewN | apply below_drew1 | refine below_set ?_ (IsS57.ge HI0.out)) | exact HB.out)); rintro e w6 ⟨rfl, hi, hb, hk⟩; refine ⟨_, rfl, ?_⟩; have n0_ := Aside0.mk (KeepBut.trans (by repeat (first | (with_reducible first | exact HK.out | apply KeepBut.set_ | apply keep_drewN | apply keep_drew | apply keep_alloc) | exact HK.out)) hk (.inl rfl)); have n1_ := Aside0.mk (hb); have n2_ := Aside0.mk (hi); clear HK; clear HB; clear HI0; have HK := n0_; have HB := n1_; have HI0 := n2_; clear n0_ n1_ n2_; (try clear hb); (try clear hb2); (try clear hk); (try clear hi)) | ((with_reducible refine gate_dst (N := 6) rfl ?_); refine Kd.R_lit (Kd.int .i64) _ 3 ?hg (N := 6) ?hd (xs := ([1, 100, 300, 10000, 50, 200, 7, wrap64 (1 + t151)] : List Int)) (inner := [.int .i64 1, .int .i64 100, .int .i64 300, .int .i64 10000, .int .i64 50, .int .i64 200, .int .i64 7, .int .i64 (wrap64 (1 + t151))]) (ok := fun _ => True) (okp := fun _ => True) ?hr ?hp (fun _ hk => hk) trivial (Below.refl _ _) (Nat.le_refl _) (by simp) ?_; (case hd => rfl); (case hg => rfl); (case hr => first | (go_simp; done) | (go_simp; rfl)); (case hp => exact (Reps.one (show Kd.M (Kd.int .i64) _ _ _ 1 [.int .i64 1] from rfl) (Reps.one (show Kd.M (Kd.int .i64) _ _ _ 100 [.int .i64 100] from rfl) (Reps.one (show Kd.M (Kd.int .i64) _ _ _ 300 [.int .i64 300] from rfl) (Reps.one (show Kd.M (Kd.int .i64) _ _ _ 10000 [.int .i64 10000] from rfl) (Reps.one (show Kd.M (Kd.int .i64) _ _ _ 50 [.int .i64 50] from rfl) (Reps.one (show Kd.M (Kd.int .i64) _ _ _ 200 [.int .i64 200] from rfl) (Reps.one (show Kd.M (Kd.int .i64) _ _ _ 7 [.int .i64 7] from rfl) (Reps.one (show Kd.M (Kd.int .i64) _ _ _ (wrap64 (1 + t151)) [.int .i64 (wrap64 (1 + t151))] from rfl) (Reps.none _ _)))))))))); intro v154 w7 ho8 hb hg_ hnew_; clear hg_ hnew_; (first | rw [← Ny153.out] at ho8 | (simp only [Int.reduceToNat] at ho8; rw [← Ny153.out] at ho8)); have n0_ := Aside0.mk (Kd.R_lower ho8 (keep_size (w := w) (g := g) (row := none) (by repeat (first | (with_reducible first | exact HK.out | apply KeepBut.set_ | apply keep_drewN | apply keep_drew | apply keep_alloc) | exact HK.out)))); have n1_ := Aside0.mk (IsS57.below (by repeat (first | (with_reducible first | exact HI0.out | apply IsS57.alloc | apply IsS57.drewN | apply IsS57.drew | apply IsS57.set_1) | exact HI0.out)) hb); have n2_ := Aside0.mk (KeepBut.trans (by repeat (first | (with_reducible first | exact HK.out | apply KeepBut.set_ | apply keep_drewN | apply keep_drew | apply keep_alloc) | exact HK.out)) (KeepBut.of_below hb g none) (.inl rfl)); have n3_ := Aside0.mk (below_step (by repeat (first | (with_reducible first | exact HB.out | apply below_alloc | apply pw_below_drewN | apply below_drew1 | refine below_set ?_ (IsS57.ge HI0.out)) | exact HB.out)) hb); clear HI0; clear HK; clear HB; have HO155 := n0_; have HI0 := n1_; have HK := n2_; have HB := n3_; clear n0_ n1_ n2_ n3_; clear hb ho8) | ((with_reducible refine gate_callee (f := 14) rfl ?_); refine goesL_ (some 8) rfl rfl Try.func14 (by kernel_rfl) rfl #[.pointer (some ⟨g, 0, none⟩), .int .i64 8] rfl (by (try simp only [List.map_toArray, List.map_cons, List.map_nil]); first | done | rfl | (simp only [List.length_drop, List.length_take]; rfl)) ?_; (with_reducible refine (groupcontrolmade_Dice_Next.calls k g s0_0 t152 8 t156 t157 w0 _ ?side1 ?side2 A3.out).mono ?_); (case side1 => repeat (first | (with_reducible first | exact HI0.out | apply IsS57.alloc | apply IsS57.drewN | apply IsS57.drew | apply IsS57.set_1) | exact HI0.out)); (case side2 => repeat (first | (with_reducible first | exact HB.out | apply below_alloc | apply pw_below_drewN | apply below_drew1 | refine below_set ?_ (IsS57.ge HI0.out)) | exact HB.out)); rintro e w9 ⟨rfl, hi, hb, hk⟩; refine ⟨_, rfl, ?_⟩; have n0_ := Aside0.mk (Kd.R_mono (Kd.R_keep (IsS57.apart (show IsS57 w0 _ g s0_0 t152 from by repeat (first | (with_reducible first | exact HI0.out | apply IsS57.alloc | apply IsS57.drewN | apply IsS57.drew | apply IsS57.set_1) | exact HI0.out)) (by (with_reducible repeat (first | apply Kd.R_alloc | apply Kd.R_drewN | apply Kd.R_drew)); exact HO155.out) (by decide)) hk (fun _ h => h.2)) (fun _ h => h.1)); have n1_ := Aside0.mk (KeepBut.trans (by repeat (first | (with_reducible first | exact HK.out | apply KeepBut.set_ | apply keep_drewN | apply keep_drew | apply keep_alloc) | exact HK.out)) hk (.inl rfl)); have n2_ := Aside0.mk (hb); have n3_ := Aside0.mk (hi); clear HO155; clear HK; clear HB; clear HI0; have HO155 := n0_; have HK := n1_; have HB := n2_; have HI0 := n3_; clear n0_ n1_ n2_ n3_; (try clear hb); (try clear hb2); (try clear hk); (try clear hi); obtain ⟨Ao10, co10, eo10⟩ := Kd.R_slice HO155.out; subst eo10; have p158 : 0 ≤ (t156 : Int) := of_decide_eq_true (by first | (with_reducible assumption) | assumption); have q158 : t156 < (y153.length : Int) := of_decide_eq_true (by first | (with_reducible assumption) | assumption); obtain ⟨ad158, e158, hx158_0⟩ := Kd.at_int (Kd.R_reads' HO155.out).2.2 t156 p158 q158; cases e158; replace p158 := eq_true p158; replace q158 := eq_true q158))
      go_ret
      exact ⟨by first | rfl | (simp [errW_none, errW_some] <;> rfl) | (simp [*, errW_none, errW_some] <;> rfl), by repeat (first | (with_reducible first | exact HI0.out | apply IsS57.alloc | apply IsS57.drewN | apply IsS57.drew | apply IsS57.set_1) | exact HI0.out), by repeat (first | (with_reducible first | exact HB.out | apply below_alloc | apply pw_below_drewN | apply below_drew1 | refine below_set ?_ (IsS57.ge HI0.out)) | exact HB.out), by repeat (first | (with_reducible first | exact HK.out | apply KeepBut.set_ | apply keep_drewN | apply keep_drew | apply keep_alloc) | exact HK.out)⟩
    · rw [if_neg c5] at H
      exact absurd H (by simp)
  · rw [if_neg c4] at H
    exact absurd H (by simp)

end Go.Proofs.Ytancnonigponaaa.PV
