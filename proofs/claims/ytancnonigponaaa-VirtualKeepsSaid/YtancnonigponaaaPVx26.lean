/- Contracts of functions of the program and of its references, over the translation, for values that can be read as data: each call comes to what a Lean function says. Written by the kit's printer and a program of this session's, with hand-made contracts spliced in. -/
import Derived.Test.YtancnonigponaaaPVx0
import Derived.Test.YtancnonigponaaaPVx2
import Derived.Test.YtancnonigponaaaPVx10
import Derived.Test.YtancnonigponaaaPVx14
import Derived.Test.YtancnonigponaaaPVx15
import Derived.Test.YtancnonigponaaaPVx16
import Derived.Test.YtancnonigponaaaPVx17
import Derived.Test.YtancnonigponaaaPVx18
import Derived.Test.YtancnonigponaaaPVx19
import Derived.Test.YtancnonigponaaaPVx20
import Derived.Test.YtancnonigponaaaPVx21
import Derived.Test.YtancnonigponaaaPVx23
import Derived.Test.YtancnonigponaaaPVx24
import Derived.Test.YtancnonigponaaaPVx25
namespace Go.Proofs.Ytancnonigponaaa.PV
open Go.RowKit Go.Proofs.YtancnonigponaaaW.PrintWords Go.Proofs.YtancnonigponaaaW.PrintLast Go.Proofs.YtancnonigponaaaW.PrintMore
attribute [local go_sem] max2_int min2_int max_two min_two max_three min_three max_four min_four   -- for this text's walks alone
set_option linter.unusedVariables false
set_option linter.unusedSimpArgs false

/-! ### groupcontrollaw15_VirtualKeeps: function 8 -/
mutual
def groupcontrollaw15_VirtualKeeps.l0 : Nat → Int → List Int → Int → Int → List (S36) → Option (Bool)
  | 0, _, _, _, _, _ => none
  | k + 1, x5, x164000, x164001, x165000, x165001 => if x5 < 30 then ((groupcontrolmade_Dice_Left.f x164000 x164001).bind fun bt165 => (groupcontrollaw15_VirtualKeeps.j1 k x5 bt165.1 x164000 bt165.2 x165000 x165001)) else (groupcontrollaw15_VirtualKeeps.j1 k x5 false x164000 x164001 x165000 x165001)
def groupcontrollaw15_VirtualKeeps.j1 : Nat → Int → Bool → List Int → Int → Int → List (S36) → Option (Bool)
  | 0, _, _, _, _, _, _ => none
  | k + 1, x5, x20, x164000, x164001, x165000, x165001 => if x20 = true then ((groupcontrolmade_Dice_Next.f k x164000 x164001 5).bind fun bt169 => ((groupcontrolmade_Dice_Next.f k x164000 bt169.2 8).bind fun bt171 => (if bt171.1 = 0 then (groupcontrollaw15_VirtualKeeps.j2 k x5 0 (wrap64 (bt169.1 - 2)) bt171.1 (bt171.1 == 0) x164000 bt171.2 x165000 x165001 x165000 x165001) else (groupcontrollaw15_VirtualKeeps.j2 k x5 0 (wrap64 (bt169.1 - 2)) bt171.1 (bt171.1 == 1) x164000 bt171.2 x165000 x165001 x165000 x165001)))) else ((groupcontrollaw15_sane.f k).bind fun t167 => (some t167))
def groupcontrollaw15_VirtualKeeps.j4 : Nat → Int → Int → List Int → Int → Int → List (S36) → Int → List (S36) → Option (Bool)
  | 0, _, _, _, _, _, _, _, _ => none
  | k + 1, x5, x7, x164000, x164001, x165000, x165001, x169000, x169001 => if x7 = 0 then (if x169000 < x165000 then (some false) else ((groupcontrolref15_Check.f x169000 x169001).bind fun t207 => (if t207 = true then (groupcontrollaw15_VirtualKeeps.l0 k (wrap64 (x5 + 1)) x164000 x164001 x169000 x169001) else (some false)))) else (groupcontrollaw15_VirtualKeeps.l0 k (wrap64 (x5 + 1)) x164000 x164001 x165000 x165001)
def groupcontrollaw15_VirtualKeeps.j2 : Nat → Int → Int → Int → Int → Bool → List Int → Int → Int → List (S36) → Int → List (S36) → Option (Bool)
  | 0, _, _, _, _, _, _, _, _, _, _, _ => none
  | k + 1, x5, x7, x8, x28, x29, x164000, x164001, x165000, x165001, x169000, x169001 => if x29 = true then ((groupcontrolmade_Dice_Weight.f k x164000 x164001).bind fun bt173 => ((virtual_Add.f x165000 x165001 x8 bt173.1).bind fun bt175 => (groupcontrollaw15_VirtualKeeps.j4 k x5 bt175.2.2 x164000 bt173.2 x165000 x165001 bt175.1 bt175.2.1))) else (if x28 = 2 then ((virtual_Wake.f x165000 x165001 x8).bind fun bt180 => (groupcontrollaw15_VirtualKeeps.j4 k x5 bt180.2.2 x164000 x164001 x165000 x165001 bt180.1 bt180.2.1)) else (if x28 = 3 then ((virtual_Sleep.f x165000 x165001 x8).bind fun bt185 => (groupcontrollaw15_VirtualKeeps.j4 k x5 bt185.2.2 x164000 x164001 x165000 x165001 bt185.1 bt185.2.1)) else (if x28 = 4 then (groupcontrollaw15_VirtualKeeps.j3 k x5 x7 x8 x28 (x28 == 4) x164000 x164001 x165000 x165001 x169000 x169001) else (groupcontrollaw15_VirtualKeeps.j3 k x5 x7 x8 x28 (x28 == 5) x164000 x164001 x165000 x165001 x169000 x169001))))
def groupcontrollaw15_VirtualKeeps.j3 : Nat → Int → Int → Int → Int → Bool → List Int → Int → Int → List (S36) → Int → List (S36) → Option (Bool)
  | 0, _, _, _, _, _, _, _, _, _, _, _ => none
  | k + 1, x5, x7, x8, x28, x56, x164000, x164001, x165000, x165001, x169000, x169001 => if x56 = true then ((virtual_Serve.f x165000 x165001 x8).bind fun bt190 => (groupcontrollaw15_VirtualKeeps.j4 k x5 bt190.2.2 x164000 x164001 x165000 x165001 bt190.1 bt190.2.1)) else (if x28 = 6 then ((groupcontrolmade_Dice_Weight.f k x164000 x164001).bind fun bt195 => ((virtual_Reweight.f x165000 x165001 x8 bt195.1).bind fun bt197 => (groupcontrollaw15_VirtualKeeps.j4 k x5 bt197.2.2 x164000 bt195.2 x165000 x165001 bt197.1 bt197.2.1))) else (if x28 = 7 then ((virtual_Drop.f x165000 x165001 x8).bind fun bt202 => (groupcontrollaw15_VirtualKeeps.j4 k x5 bt202.2.2 x164000 x164001 x165000 x165001 bt202.1 bt202.2.1)) else (groupcontrollaw15_VirtualKeeps.j4 k x5 x7 x164000 x164001 x165000 x165001 x169000 x169001)))
end
def groupcontrollaw15_VirtualKeeps.f (k : Nat) (l0 : List Int) : Option (Bool) := (groupcontrolmade_Light.f l0).bind fun t159 => (if t159 = true then ((groupcontrolmade_Roll.f l0).bind fun bt161 => (groupcontrollaw15_VirtualKeeps.l0 k 0 bt161.1 bt161.2 0 ([] : List (S36)))) else ((groupcontrollaw15_sane.f k).bind fun t160 => (some t160)))
theorem groupcontrollaw15_VirtualKeeps.mono_l : ∀ k, (∀ y0 y1 y2 y3 y4, LeO (groupcontrollaw15_VirtualKeeps.l0 k y0 y1 y2 y3 y4) (groupcontrollaw15_VirtualKeeps.l0 (k + 1) y0 y1 y2 y3 y4)) ∧ (∀ y0 y1 y2 y3 y4 y5, LeO (groupcontrollaw15_VirtualKeeps.j1 k y0 y1 y2 y3 y4 y5) (groupcontrollaw15_VirtualKeeps.j1 (k + 1) y0 y1 y2 y3 y4 y5)) ∧ (∀ y0 y1 y2 y3 y4 y5 y6 y7, LeO (groupcontrollaw15_VirtualKeeps.j4 k y0 y1 y2 y3 y4 y5 y6 y7) (groupcontrollaw15_VirtualKeeps.j4 (k + 1) y0 y1 y2 y3 y4 y5 y6 y7)) ∧ (∀ y0 y1 y2 y3 y4 y5 y6 y7 y8 y9 y10, LeO (groupcontrollaw15_VirtualKeeps.j2 k y0 y1 y2 y3 y4 y5 y6 y7 y8 y9 y10) (groupcontrollaw15_VirtualKeeps.j2 (k + 1) y0 y1 y2 y3 y4 y5 y6 y7 y8 y9 y10)) ∧ (∀ y0 y1 y2 y3 y4 y5 y6 y7 y8 y9 y10, LeO (groupcontrollaw15_VirtualKeeps.j3 k y0 y1 y2 y3 y4 y5 y6 y7 y8 y9 y10) (groupcontrollaw15_VirtualKeeps.j3 (k + 1) y0 y1 y2 y3 y4 y5 y6 y7 y8 y9 y10))
  | 0 => ⟨fun _ _ _ _ _ r h => by simp [groupcontrollaw15_VirtualKeeps.l0] at h, fun _ _ _ _ _ _ r h => by simp [groupcontrollaw15_VirtualKeeps.j1] at h, fun _ _ _ _ _ _ _ _ r h => by simp [groupcontrollaw15_VirtualKeeps.j4] at h, fun _ _ _ _ _ _ _ _ _ _ _ r h => by simp [groupcontrollaw15_VirtualKeeps.j2] at h, fun _ _ _ _ _ _ _ _ _ _ _ r h => by simp [groupcontrollaw15_VirtualKeeps.j3] at h⟩
  | k + 1 => by
    obtain ⟨ih0, ih1, ih2, ih3, ih4⟩ := groupcontrollaw15_VirtualKeeps.mono_l k
    refine ⟨?_, ?_, ?_, ?_, ?_⟩
    · intro y0 y1 y2 y3 y4
      unfold groupcontrollaw15_VirtualKeeps.l0
      repeat' first
      | (with_reducible exact ih0 _ _ _ _ _)
      | (with_reducible exact ih1 _ _ _ _ _ _)
      | (with_reducible exact ih2 _ _ _ _ _ _ _ _)
      | (with_reducible exact ih3 _ _ _ _ _ _ _ _ _ _ _)
      | (with_reducible exact ih4 _ _ _ _ _ _ _ _ _ _ _)
      | (with_reducible exact groupcontrollaw15_sane.mono _)
      | (with_reducible exact groupcontrolmade_Dice_Next.mono _ _ _ _)
      | (with_reducible exact groupcontrolmade_Dice_Weight.mono _ _ _)
      | (with_reducible exact LeO.refl _)
      | (with_reducible exact LeO.none _)
      | (with_reducible refine LeO.ite ?_ ?_)
      | (with_reducible refine LeO.bind ?_ (fun _ => ?_))
      | exact ih0 _ _ _ _ _
      | exact ih1 _ _ _ _ _ _
      | exact ih2 _ _ _ _ _ _ _ _
      | exact ih3 _ _ _ _ _ _ _ _ _ _ _
      | exact ih4 _ _ _ _ _ _ _ _ _ _ _
      | exact groupcontrollaw15_sane.mono _
      | exact groupcontrolmade_Dice_Next.mono _ _ _ _
      | exact groupcontrolmade_Dice_Weight.mono _ _ _
      | exact LeO.none _
      | refine LeO.ite ?_ ?_
      | refine LeO.bind ?_ (fun _ => ?_)
    · intro y0 y1 y2 y3 y4 y5
      unfold groupcontrollaw15_VirtualKeeps.j1
      repeat' first
      | (with_reducible exact ih0 _ _ _ _ _)
      | (with_reducible exact ih1 _ _ _ _ _ _)
      | (with_reducible exact ih2 _ _ _ _ _ _ _ _)
      | (with_reducible exact ih3 _ _ _ _ _ _ _ _ _ _ _)
      | (with_reducible exact ih4 _ _ _ _ _ _ _ _ _ _ _)
      | (with_reducible exact groupcontrollaw15_sane.mono _)
      | (with_reducible exact groupcontrolmade_Dice_Next.mono _ _ _ _)
      | (with_reducible exact groupcontrolmade_Dice_Weight.mono _ _ _)
      | (with_reducible exact LeO.refl _)
      | (with_reducible exact LeO.none _)
      | (with_reducible refine LeO.ite ?_ ?_)
      | (with_reducible refine LeO.bind ?_ (fun _ => ?_))
      | exact ih0 _ _ _ _ _
      | exact ih1 _ _ _ _ _ _
      | exact ih2 _ _ _ _ _ _ _ _
      | exact ih3 _ _ _ _ _ _ _ _ _ _ _
      | exact ih4 _ _ _ _ _ _ _ _ _ _ _
      | exact groupcontrollaw15_sane.mono _
      | exact groupcontrolmade_Dice_Next.mono _ _ _ _
      | exact groupcontrolmade_Dice_Weight.mono _ _ _
      | exact LeO.none _
      | refine LeO.ite ?_ ?_
      | refine LeO.bind ?_ (fun _ => ?_)
    · intro y0 y1 y2 y3 y4 y5 y6 y7
      unfold groupcontrollaw15_VirtualKeeps.j4
      repeat' first
      | (with_reducible exact ih0 _ _ _ _ _)
      | (with_reducible exact ih1 _ _ _ _ _ _)
      | (with_reducible exact ih2 _ _ _ _ _ _ _ _)
      | (with_reducible exact ih3 _ _ _ _ _ _ _ _ _ _ _)
      | (with_reducible exact ih4 _ _ _ _ _ _ _ _ _ _ _)
      | (with_reducible exact groupcontrollaw15_sane.mono _)
      | (with_reducible exact groupcontrolmade_Dice_Next.mono _ _ _ _)
      | (with_reducible exact groupcontrolmade_Dice_Weight.mono _ _ _)
      | (with_reducible exact LeO.refl _)
      | (with_reducible exact LeO.none _)
      | (with_reducible refine LeO.ite ?_ ?_)
      | (with_reducible refine LeO.bind ?_ (fun _ => ?_))
      | exact ih0 _ _ _ _ _
      | exact ih1 _ _ _ _ _ _
      | exact ih2 _ _ _ _ _ _ _ _
      | exact ih3 _ _ _ _ _ _ _ _ _ _ _
      | exact ih4 _ _ _ _ _ _ _ _ _ _ _
      | exact groupcontrollaw15_sane.mono _
      | exact groupcontrolmade_Dice_Next.mono _ _ _ _
      | exact groupcontrolmade_Dice_Weight.mono _ _ _
      | exact LeO.none _
      | refine LeO.ite ?_ ?_
      | refine LeO.bind ?_ (fun _ => ?_)
    · intro y0 y1 y2 y3 y4 y5 y6 y7 y8 y9 y10
      unfold groupcontrollaw15_VirtualKeeps.j2
      repeat' first
      | (with_reducible exact ih0 _ _ _ _ _)
      | (with_reducible exact ih1 _ _ _ _ _ _)
      | (with_reducible exact ih2 _ _ _ _ _ _ _ _)
      | (with_reducible exact ih3 _ _ _ _ _ _ _ _ _ _ _)
      | (with_reducible exact ih4 _ _ _ _ _ _ _ _ _ _ _)
      | (with_reducible exact groupcontrollaw15_sane.mono _)
      | (with_reducible exact groupcontrolmade_Dice_Next.mono _ _ _ _)
      | (with_reducible exact groupcontrolmade_Dice_Weight.mono _ _ _)
      | (with_reducible exact LeO.refl _)
      | (with_reducible exact LeO.none _)
      | (with_reducible refine LeO.ite ?_ ?_)
      | (with_reducible refine LeO.bind ?_ (fun _ => ?_))
      | exact ih0 _ _ _ _ _
      | exact ih1 _ _ _ _ _ _
      | exact ih2 _ _ _ _ _ _ _ _
      | exact ih3 _ _ _ _ _ _ _ _ _ _ _
      | exact ih4 _ _ _ _ _ _ _ _ _ _ _
      | exact groupcontrollaw15_sane.mono _
      | exact groupcontrolmade_Dice_Next.mono _ _ _ _
      | exact groupcontrolmade_Dice_Weight.mono _ _ _
      | exact LeO.none _
      | refine LeO.ite ?_ ?_
      | refine LeO.bind ?_ (fun _ => ?_)
    · intro y0 y1 y2 y3 y4 y5 y6 y7 y8 y9 y10
      unfold groupcontrollaw15_VirtualKeeps.j3
      repeat' first
      | (with_reducible exact ih0 _ _ _ _ _)
      | (with_reducible exact ih1 _ _ _ _ _ _)
      | (with_reducible exact ih2 _ _ _ _ _ _ _ _)
      | (with_reducible exact ih3 _ _ _ _ _ _ _ _ _ _ _)
      | (with_reducible exact ih4 _ _ _ _ _ _ _ _ _ _ _)
      | (with_reducible exact groupcontrollaw15_sane.mono _)
      | (with_reducible exact groupcontrolmade_Dice_Next.mono _ _ _ _)
      | (with_reducible exact groupcontrolmade_Dice_Weight.mono _ _ _)
      | (with_reducible exact LeO.refl _)
      | (with_reducible exact LeO.none _)
      | (with_reducible refine LeO.ite ?_ ?_)
      | (with_reducible refine LeO.bind ?_ (fun _ => ?_))
      | exact ih0 _ _ _ _ _
      | exact ih1 _ _ _ _ _ _
      | exact ih2 _ _ _ _ _ _ _ _
      | exact ih3 _ _ _ _ _ _ _ _ _ _ _
      | exact ih4 _ _ _ _ _ _ _ _ _ _ _
      | exact groupcontrollaw15_sane.mono _
      | exact groupcontrolmade_Dice_Next.mono _ _ _ _
      | exact groupcontrolmade_Dice_Weight.mono _ _ _
      | exact LeO.none _
      | refine LeO.ite ?_ ?_
      | refine LeO.bind ?_ (fun _ => ?_)
theorem groupcontrollaw15_VirtualKeeps.mono : ∀ a0 k, LeO (groupcontrollaw15_VirtualKeeps.f k a0) (groupcontrollaw15_VirtualKeeps.f (k + 1) a0) := by
  intro a0 k
  obtain ⟨ih0, ih1, ih2, ih3, ih4⟩ := groupcontrollaw15_VirtualKeeps.mono_l k
  unfold groupcontrollaw15_VirtualKeeps.f
  repeat' first
      | (with_reducible exact ih0 _ _ _ _ _)
      | (with_reducible exact ih1 _ _ _ _ _ _)
      | (with_reducible exact ih2 _ _ _ _ _ _ _ _)
      | (with_reducible exact ih3 _ _ _ _ _ _ _ _ _ _ _)
      | (with_reducible exact ih4 _ _ _ _ _ _ _ _ _ _ _)
      | (with_reducible exact groupcontrollaw15_sane.mono _)
      | (with_reducible exact groupcontrolmade_Dice_Next.mono _ _ _ _)
      | (with_reducible exact groupcontrolmade_Dice_Weight.mono _ _ _)
      | (with_reducible exact LeO.refl _)
      | (with_reducible exact LeO.none _)
      | (with_reducible refine LeO.ite ?_ ?_)
      | (with_reducible refine LeO.bind ?_ (fun _ => ?_))
      | exact ih0 _ _ _ _ _
      | exact ih1 _ _ _ _ _ _
      | exact ih2 _ _ _ _ _ _ _ _
      | exact ih3 _ _ _ _ _ _ _ _ _ _ _
      | exact ih4 _ _ _ _ _ _ _ _ _ _ _
      | exact groupcontrollaw15_sane.mono _
      | exact groupcontrolmade_Dice_Next.mono _ _ _ _
      | exact groupcontrolmade_Dice_Weight.mono _ _ _
      | exact LeO.none _
      | refine LeO.ite ?_ ?_
      | refine LeO.bind ?_ (fun _ => ?_)
def groupcontrollaw15_VirtualKeeps.T13 : Bool × List (List Nat × List Nat) := (true, [([], []), ([], []), ([], []), ([2], [2]), ([0, 1, 3, 3], [0, 1, 3]), ([4], [4]), ([5], [5]), ([5], [5]), ([6, 4, 0, 1, 2, 3, 4, 5, 6], [6]), ([7, 8, 0, 1, 2, 3, 4, 5, 6, 7, 8], [7])])
def groupcontrollaw15_VirtualKeeps.B13 : List Nat := [0, 0, 0, 4, 15, 31, 63, 63, 127, 511]
theorem groupcontrollaw15_VirtualKeeps.tab13 : rtab .any (opsOf Try.f8 13) = groupcontrollaw15_VirtualKeeps.T13 := by kernel_rfl
theorem groupcontrollaw15_VirtualKeeps.bits13 : waitsOk groupcontrollaw15_VirtualKeeps.T13.2 groupcontrollaw15_VirtualKeeps.B13 = true := by kernel_rfl
def groupcontrollaw15_VirtualKeeps.T22 : Bool × List (List Nat × List Nat) := (true, [([], []), ([], []), ([], []), ([2], [2]), ([0, 1, 3, 3], [0, 1, 3]), ([4], [4]), ([5], [5]), ([5], [5]), ([6, 4, 0, 1, 2, 3, 4, 5, 6], [6]), ([7, 8, 0, 1, 2, 3, 4, 5, 6, 7, 8], [7])])
def groupcontrollaw15_VirtualKeeps.B22 : List Nat := [0, 0, 0, 4, 15, 31, 63, 63, 127, 511]
theorem groupcontrollaw15_VirtualKeeps.tab22 : rtab .any (opsOf Try.f8 22) = groupcontrollaw15_VirtualKeeps.T22 := by kernel_rfl
theorem groupcontrollaw15_VirtualKeeps.bits22 : waitsOk groupcontrollaw15_VirtualKeeps.T22.2 groupcontrollaw15_VirtualKeeps.B22 = true := by kernel_rfl
set_option maxHeartbeats 8000000 in
set_option maxRecDepth 100000 in
theorem groupcontrollaw15_VirtualKeeps.calls (k : Nat) (A0 : Option Addr) (c0 : Nat) (l0 : List Int) (r : Bool) (w : World) (hr0 : Kd.C (Kd.int .i64) w A0 l0.length l0) (hc0 : l0.length ≤ c0) (h : groupcontrollaw15_VirtualKeeps.f k l0 = some r) :
    Calls Try.prog 8 #[.slice A0 l0.length c0] w fun e w' => e = .returned (.bool r) ∧ Below w.heap.size w w' := by
  have hu29 := Try.underlying29
  have HR0 := Aside0.mk hr0
  have HC0 := Aside0.mk hc0
  clear hr0 hc0
  have HB := Aside0.mk (Below.refl w.heap.size w)
  have H : ((groupcontrolmade_Light.f l0).bind fun t159 => (if t159 = true then ((groupcontrolmade_Roll.f l0).bind fun bt161 => (groupcontrollaw15_VirtualKeeps.l0 k 0 bt161.1 bt161.2 0 ([] : List (S36)))) else ((groupcontrollaw15_sane.f k).bind fun t160 => (some t160)))) = some r := h
  clear h
  replace H := Option.bind_eq_some_iff.mp H
  obtain ⟨t159, A20, H⟩ := H
  replace H : (if t159 = true then ((groupcontrolmade_Roll.f l0).bind fun bt161 => (groupcontrollaw15_VirtualKeeps.l0 k 0 bt161.1 bt161.2 0 ([] : List (S36)))) else ((groupcontrollaw15_sane.f k).bind fun t160 => (some t160))) = some r := H
  have A2 := Aside0.mk A20
  clear A20
  by_cases c3 : t159 = true
  · subst c3
    have H1 : ((groupcontrolmade_Roll.f l0).bind fun bt161 => (groupcontrollaw15_VirtualKeeps.l0 k 0 bt161.1 bt161.2 0 ([] : List (S36)))) = some r := by rw [if_pos rfl] at H; exact H
    clear H
    have H := H1
    clear H1
    replace H := Option.bind_eq_some_iff.mp H
    obtain ⟨⟨t161, t162⟩, A40, H⟩ := H
    replace H : (groupcontrollaw15_VirtualKeeps.l0 k 0 t161 t162 0 ([] : List (S36))) = some r := H
    have A4 := Aside0.mk A40
    clear A40
    have H' := Aside0.mk H
    clear H
    go_enter Try.func8, Try.ntmps8
    go_wp2_with (first | ((with_reducible refine gate_callee (f := 10) rfl ?_); refine goesL_ (some 10) rfl rfl Try.func10 (by kernel_rfl) rfl #[.slice A0 l0.length c0] rfl (by (try simp only [List.map_toArray, List.map_cons, List.map_nil]); first | done | rfl | (simp only [List.length_drop, List.length_take]; rfl)) ?_; (with_reducible refine (groupcontrolmade_Light.calls _ _ l0 true _ ?side1 ?side2 A2.out).mono ?_); (case side1 => repeat (first | exact HR0.out | (with_reducible refine Kd.C_alloc ?_ _) | (with_reducible refine Kd.C_drewN ?_ _) | (with_reducible refine Kd.C_drew ?_))); (case side2 => exact HC0.out); rintro e w' ⟨rfl, ⟨nd, rfl⟩⟩; refine ⟨_, rfl, ?_⟩) | ((with_reducible refine gate_callee (f := 12) rfl ?_); refine goesL_ (some 14) rfl rfl Try.func12 (by kernel_rfl) rfl #[.slice A0 l0.length c0] rfl (by (try simp only [List.map_toArray, List.map_cons, List.map_nil]); first | done | rfl | (simp only [List.length_drop, List.length_take]; rfl)) ?_; (with_reducible refine (groupcontrolmade_Roll.calls _ _ l0 t161 t162 w _ ?side1 ?side2 ?side3 A4.out).mono ?_); (case side1 => repeat (first | (with_reducible first | exact HB.out | apply below_alloc | apply pw_below_drewN | apply below_drew1) | exact HB.out)); (case side2 => exact HR0.out); (case side3 => exact HC0.out); rintro e w5 ⟨g163, rfl, hi, hb, hb2⟩; refine ⟨_, rfl, ?_⟩; have n0_ := Aside0.mk (hb); have n1_ := Aside0.mk (hi); clear HB; have HB := n0_; have HI163 := n1_; clear n0_ n1_; (try clear hb); (try clear hb2); (try clear hk); (try clear hi)) | ((with_reducible refine gate_dst (N := 4) rfl ?_); refine box_event ?hg (N := 4) ?hd (cs := #[.int .i64 0, .slice none 0 0]) (t := 29) ?hr ?_; (case hd => rfl); (case hg => rfl); (case hr => first | (go_simp; done) | (go_simp; rfl)); intro gb164 hg w6 hbox hb; have n0_ := Aside0.mk (IsS57.below (by repeat (first | (with_reducible first | exact HI163.out | apply IsS57.alloc | apply IsS57.drewN | apply IsS57.drew | apply IsS57.set_1) | exact HI163.out)) hb); have n1_ := Aside0.mk (below_step (by repeat (first | (with_reducible first | exact HB.out | apply below_alloc | apply pw_below_drewN | apply below_drew1 | refine below_set ?_ (IsS57.ge HI163.out)) | exact HB.out)) hb); have n2_ := Aside0.mk (hbox); have n3_ := Aside0.mk ((by rw [hg]; exact (below_size (by repeat (first | (with_reducible first | exact HB.out | apply below_alloc | apply pw_below_drewN | apply below_drew1 | refine below_set ?_ (IsS57.ge HI163.out)) | exact HB.out))) : w.heap.size ≤ gb164)); have n4_ := Aside0.mk ((by rw [hg]; exact (below_size (by repeat (first | (with_reducible first | exact HB.out | apply below_alloc | apply pw_below_drewN | apply below_drew1 | refine below_set ?_ (IsS57.ge HI163.out)) | exact HB.out))) : w.heap.size ≤ gb164)); have n5_ := Aside0.mk ((by rw [hg]; exact Nat.ne_of_lt (IsS57.lt (show IsS57 w _ g163 t161 t162 from by repeat (first | (with_reducible first | exact HI163.out | apply IsS57.alloc | apply IsS57.drewN | apply IsS57.drew | apply IsS57.set_1) | exact HI163.out))) : g163 ≠ gb164)); have n6_ := Aside0.mk ((by rw [hg]; exact Nat.ne_of_gt (IsS57.lt (show IsS57 w _ g163 t161 t162 from by repeat (first | (with_reducible first | exact HI163.out | apply IsS57.alloc | apply IsS57.drewN | apply IsS57.drew | apply IsS57.set_1) | exact HI163.out))) : gb164 ≠ g163)); clear HI163; clear HB; have HI163 := n0_; have HB := n1_; have BK164 := n2_; have GW164 := n3_; have GE164 := n4_; have NB163_164 := n5_; have NB164_163 := n6_; clear n0_ n1_ n2_ n3_ n4_ n5_ n6_; clear hb hbox hg))
    go_loopg [5] k (fun kq v5 w' => ∃ (x5_1 : Int) (x164001_1 : Int) (x165000_1 : Int) (x165001_1 : List (S36)) (u165001 : Value), v5 = .int .i64 x5_1 ∧ Aside0 (groupcontrollaw15_VirtualKeeps.l0 kq x5_1 t161 x164001_1 x165000_1 x165001_1 = some r) ∧ Aside0 (kq ≤ k) ∧ Aside0 (Kd.R k36 36 w' w.heap.size (fun _ => True) u165001 x165001_1) ∧ Aside0 (w'.heap[gb164]? = some (.cells #[.int .i64 x165000_1, u165001] 29 (0, 0))) ∧ Aside0 (IsS57 w w' g163 t161 x164001_1) ∧ Aside0 (Below w.heap.size w w'))
    case atStart => exact ⟨(0), (t162), (0), (([] : List (S36))), (.slice none 0 0), (by first | rfl | (simp; done) | (simp [*]; done)), H', ⟨Nat.le_refl _⟩, ⟨by first | exact Kd.R_nil _ _ _ _ _ | exact Kd.N_nil _ _ _ _ _ | exact Kd.V_nil _ _ _ _ _ | exact Kd.Q_nil _ _ _ _ _ | exact Kd.S_nil _ _ _ _ _⟩, ⟨by (with_reducible repeat (first | refine blk_drewN ?_ _ | refine blk_drew ?_ | refine blk_alloc ?_ _)); exact BK164.out⟩, ⟨by repeat (first | (with_reducible first | exact HI163.out | apply IsS57.alloc | apply IsS57.drewN | apply IsS57.drew | apply IsS57.set_1 | refine IsS57.far ?_ NB163_164.out _) | exact HI163.out)⟩, ⟨by repeat (first | (with_reducible first | exact HB.out | apply below_alloc | apply pw_below_drewN | apply below_drew1 | refine below_set ?_ (IsS57.ge HI163.out) | refine below_set ?_ GE164.out) | exact HB.out)⟩⟩
    case round =>
      clear H'
      try clear c1
      try clear p2
      try clear c3
      obtain ⟨x5_1, x164001_1, x165000_1, x165001_1, u165001, rfl, HA, HK1, HO_165001, BK164, HI163, HB⟩ := hrel
      cases gk with
      | zero => exact absurd HA.out (by simp [groupcontrollaw15_VirtualKeeps.l0])
      | succ k1 =>
        have H := HA.out
        clear HA
        simp only [groupcontrollaw15_VirtualKeeps.l0] at H
        have HC7 := Aside0.mk H
        clear H
        go_upto_region 6 with (fail)
        go_cut [20] (fun v20 wc => ∃ (kq : Nat) (x20_6 : Bool) (x164001_6 : Int), v20 = .bool x20_6 ∧ Aside0 (groupcontrollaw15_VirtualKeeps.j1 kq x5_1 x20_6 t161 x164001_6 x165000_1 x165001_1 = some r) ∧ Aside0 (kq ≤ k1) ∧ Aside0 (Kd.R k36 36 wc w.heap.size (fun _ => True) u165001 x165001_1) ∧ Aside0 (wc.heap[gb164]? = some (.cells #[.int .i64 x165000_1, u165001] 29 (0, 0))) ∧ Aside0 (IsS57 w wc g163 t161 x164001_6) ∧ Aside0 (Below w.heap.size w wc))
        case first =>
          have H := HC7.out
          clear HC7
          by_cases c8 : x5_1 < 30
          · rw [if_pos c8] at H
            have c8b0 : decide (x5_1 < 30) = true := decide_eq_true c8
            clear c8
            (first | rw [c8b0] | (simp only [i64_w, i32_w]; rw [c8b0]) | skip)
            replace H := Option.bind_eq_some_iff.mp H
            obtain ⟨⟨t165, t166⟩, A90, H⟩ := H
            replace H : (groupcontrollaw15_VirtualKeeps.j1 k1 x5_1 t165 t161 t166 x165000_1 x165001_1) = some r := H
            have A9 := Aside0.mk A90
            clear A90
            have H' := Aside0.mk H
            clear H
            go_wp2_with (first | (go_at_call 30; (with_reducible refine (groupcontrolmade_Dice_Left.calls g163 t161 x164001_1 t165 t166 w _ ?side1 ?side2 A9.out).mono ?_); (case side1 => repeat (first | (with_reducible first | exact HI163.out | apply IsS57.alloc | apply IsS57.drewN | apply IsS57.drew | apply IsS57.set_1 | refine IsS57.far ?_ NB163_164.out _) | exact HI163.out)); (case side2 => repeat (first | (with_reducible first | exact HB.out | apply below_alloc | apply pw_below_drewN | apply below_drew1 | refine below_set ?_ (IsS57.ge HI163.out) | refine below_set ?_ GE164.out) | exact HB.out)); rintro e w10 ⟨rfl, hi, hb, hk⟩; have n0_ := Aside0.mk (Kd.R_mono (Kd.R_keep (IsS57.apart (show IsS57 w _ g163 t161 x164001_1 from by repeat (first | (with_reducible first | exact HI163.out | apply IsS57.alloc | apply IsS57.drewN | apply IsS57.drew | apply IsS57.set_1 | refine IsS57.far ?_ NB163_164.out _) | exact HI163.out)) (by (with_reducible repeat (first | apply Kd.R_alloc | apply Kd.R_drewN | apply Kd.R_drew)); exact HO_165001.out) (by decide)) hk (fun _ h => h.2)) (fun _ h => h.1)); have n1_ := Aside0.mk (KeepBut.blk hk (g' := gb164) (o := .cells #[.int .i64 x165000_1, u165001] 29 (0, 0)) (by (with_reducible repeat (first | refine blk_drewN ?_ _ | refine blk_drew ?_ | refine blk_alloc ?_ _)); exact BK164.out) NB164_163.out (by simp)); have n2_ := Aside0.mk (hb); have n3_ := Aside0.mk (hi); clear HO_165001; clear BK164; clear HB; clear HI163; have HO_165001 := n0_; have BK164 := n1_; have HB := n2_; have HI163 := n3_; clear n0_ n1_ n2_ n3_; (try clear hb); (try clear hb2); (try clear hk); (try clear hi)))
            go_meet
            case rel => exact ⟨_, (t165), (t166), (by first | rfl | (simp; done) | (simp [*]; done)), H', ⟨by have := HK1.out; first | omega | exact Nat.le_refl _⟩, ⟨by (with_reducible repeat (first | apply Kd.R_alloc | apply Kd.R_drewN | apply Kd.R_drew)); exact HO_165001.out⟩, ⟨by (with_reducible repeat (first | refine blk_drewN ?_ _ | refine blk_drew ?_ | refine blk_alloc ?_ _)); exact BK164.out⟩, ⟨by repeat (first | (with_reducible first | exact HI163.out | apply IsS57.alloc | apply IsS57.drewN | apply IsS57.drew | apply IsS57.set_1 | refine IsS57.far ?_ NB163_164.out _) | exact HI163.out)⟩, ⟨by repeat (first | (with_reducible first | exact HB.out | apply below_alloc | apply pw_below_drewN | apply below_drew1 | refine below_set ?_ (IsS57.ge HI163.out) | refine below_set ?_ GE164.out) | exact HB.out)⟩⟩
          · rw [if_neg c8] at H
            have c8b0 : decide (x5_1 < 30) = false := decide_eq_false c8
            clear c8
            (first | rw [c8b0] | (simp only [i64_w, i32_w]; rw [c8b0]) | skip)
            have H' := Aside0.mk H
            clear H
            go_wp2
            go_meet
            case rel => exact ⟨_, (false), (x164001_1), (by first | rfl | (simp; done) | (simp [*]; done)), H', ⟨by have := HK1.out; first | omega | exact Nat.le_refl _⟩, ⟨by (with_reducible repeat (first | apply Kd.R_alloc | apply Kd.R_drewN | apply Kd.R_drew)); exact HO_165001.out⟩, ⟨by (with_reducible repeat (first | refine blk_drewN ?_ _ | refine blk_drew ?_ | refine blk_alloc ?_ _)); exact BK164.out⟩, ⟨by repeat (first | (with_reducible first | exact HI163.out | apply IsS57.alloc | apply IsS57.drewN | apply IsS57.drew | apply IsS57.set_1 | refine IsS57.far ?_ NB163_164.out _) | exact HI163.out)⟩, ⟨by repeat (first | (with_reducible first | exact HB.out | apply below_alloc | apply pw_below_drewN | apply below_drew1 | refine below_set ?_ (IsS57.ge HI163.out) | refine below_set ?_ GE164.out) | exact HB.out)⟩⟩
        case rest =>
          clear HC7
          try clear c1
          try clear p2
          try clear c3
          try clear c8
          try clear c8b0
          try clear c10
          try clear p2
          obtain ⟨kq, x20_6, x164001_6, rfl, HA, HJ6, HO_165001, BK164, HI163, HB⟩ := hcut
          cases kq with
          | zero => exact absurd HA.out (by simp [groupcontrollaw15_VirtualKeeps.j1])
          | succ kj6 =>
            have H := HA.out
            clear HA
            simp only [groupcontrollaw15_VirtualKeeps.j1] at H
            by_cases c11 : x20_6 = true
            · subst c11
              have H1 : ((groupcontrolmade_Dice_Next.f kj6 t161 x164001_6 5).bind fun bt169 => ((groupcontrolmade_Dice_Next.f kj6 t161 bt169.2 8).bind fun bt171 => (if bt171.1 = 0 then (groupcontrollaw15_VirtualKeeps.j2 kj6 x5_1 0 (wrap64 (bt169.1 - 2)) bt171.1 (bt171.1 == 0) t161 bt171.2 x165000_1 x165001_1 x165000_1 x165001_1) else (groupcontrollaw15_VirtualKeeps.j2 kj6 x5_1 0 (wrap64 (bt169.1 - 2)) bt171.1 (bt171.1 == 1) t161 bt171.2 x165000_1 x165001_1 x165000_1 x165001_1)))) = some r := by rw [if_pos rfl] at H; exact H
              clear H
              have H := H1
              clear H1
              replace H := Option.bind_eq_some_iff.mp H
              obtain ⟨⟨t169, t170⟩, A120, H⟩ := H
              replace H : ((groupcontrolmade_Dice_Next.f kj6 t161 t170 8).bind fun bt171 => (if bt171.1 = 0 then (groupcontrollaw15_VirtualKeeps.j2 kj6 x5_1 0 (wrap64 (t169 - 2)) bt171.1 (bt171.1 == 0) t161 bt171.2 x165000_1 x165001_1 x165000_1 x165001_1) else (groupcontrollaw15_VirtualKeeps.j2 kj6 x5_1 0 (wrap64 (t169 - 2)) bt171.1 (bt171.1 == 1) t161 bt171.2 x165000_1 x165001_1 x165000_1 x165001_1))) = some r := H
              have A12 := Aside0.mk A120
              clear A120
              replace H := Option.bind_eq_some_iff.mp H
              obtain ⟨⟨t171, t172⟩, A130, H⟩ := H
              replace H : (if t171 = 0 then (groupcontrollaw15_VirtualKeeps.j2 kj6 x5_1 0 (wrap64 (t169 - 2)) t171 (t171 == 0) t161 t172 x165000_1 x165001_1 x165000_1 x165001_1) else (groupcontrollaw15_VirtualKeeps.j2 kj6 x5_1 0 (wrap64 (t169 - 2)) t171 (t171 == 1) t161 t172 x165000_1 x165001_1 x165000_1 x165001_1)) = some r := H
              have A13 := Aside0.mk A130
              clear A130
              have HC14 := Aside0.mk H
              clear H
              have hnb15 := NB164_163.out
              have hnc15 := NB163_164.out
              have hcz16_0 : wc.cell? ⟨gb164, 0, none⟩ = some (.int .i64 x165000_1) := (blk_cell BK164.out 0).trans rfl
              have hcz16_1 : wc.cell? ⟨gb164, 1, none⟩ = some (u165001) := (blk_cell BK164.out 1).trans rfl
              have hfz16_0 := blk_frozen BK164.out 0
              have hfz16_1 := blk_frozen BK164.out 1
              go_upto_block 2 with (first | ((with_reducible refine gate_dst (N := 6) rfl ?_); refine box_event ?hg (N := 6) ?hd (cs := #[.int .i64 0, .slice none 0 0]) (t := 29) ?hr ?_; (case hd => rfl); (case hg => rfl); (case hr => first | (go_simp; done) | (go_simp; rfl)); intro gb168 hg w17 hbox hb; have n0_ := Aside0.mk (Kd.R_below (by (with_reducible repeat (first | apply Kd.R_alloc | apply Kd.R_drewN | apply Kd.R_drew)); exact HO_165001.out) hb); have n1_ := Aside0.mk (blk_below (g := gb164) (o := .cells #[.int .i64 x165000_1, u165001] 29 (0, 0)) (by (with_reducible repeat (first | refine blk_drewN ?_ _ | refine blk_drew ?_ | refine blk_alloc ?_ _)); exact BK164.out) hb); have n2_ := Aside0.mk (IsS57.below (by repeat (first | (with_reducible first | exact HI163.out | apply IsS57.alloc | apply IsS57.drewN | apply IsS57.drew | apply IsS57.set_1 | refine IsS57.far ?_ NB163_164.out _) | exact HI163.out)) hb); have n3_ := Aside0.mk (below_step (by repeat (first | (with_reducible first | exact HB.out | apply below_alloc | apply pw_below_drewN | apply below_drew1 | refine below_set ?_ (IsS57.ge HI163.out) | refine below_set ?_ GE164.out) | exact HB.out)) hb); have n4_ := Aside0.mk (hbox); have n5_ := Aside0.mk ((by rw [hg]; exact (below_size (by repeat (first | (with_reducible first | exact HB.out | apply below_alloc | apply pw_below_drewN | apply below_drew1 | refine below_set ?_ (IsS57.ge HI163.out) | refine below_set ?_ GE164.out) | exact HB.out))) : w.heap.size ≤ gb168)); have n6_ := Aside0.mk ((by rw [hg]; exact (below_size (by repeat (first | (with_reducible first | exact HB.out | apply below_alloc | apply pw_below_drewN | apply below_drew1 | refine below_set ?_ (IsS57.ge HI163.out) | refine below_set ?_ GE164.out) | exact HB.out))) : w.heap.size ≤ gb168)); have n7_ := Aside0.mk ((by rw [hg]; exact Nat.ne_of_lt (blk_lt (g := gb164) (o := .cells #[.int .i64 x165000_1, u165001] 29 (0, 0)) (by (with_reducible repeat (first | refine blk_drewN ?_ _ | refine blk_drew ?_ | refine blk_alloc ?_ _)); exact BK164.out)) : gb164 ≠ gb168)); have n8_ := Aside0.mk ((by rw [hg]; exact Nat.ne_of_gt (blk_lt (g := gb164) (o := .cells #[.int .i64 x165000_1, u165001] 29 (0, 0)) (by (with_reducible repeat (first | refine blk_drewN ?_ _ | refine blk_drew ?_ | refine blk_alloc ?_ _)); exact BK164.out)) : gb168 ≠ gb164)); have n9_ := Aside0.mk ((by rw [hg]; exact Nat.ne_of_lt (IsS57.lt (show IsS57 w _ g163 t161 x164001_6 from by repeat (first | (with_reducible first | exact HI163.out | apply IsS57.alloc | apply IsS57.drewN | apply IsS57.drew | apply IsS57.set_1 | refine IsS57.far ?_ NB163_164.out _) | exact HI163.out))) : g163 ≠ gb168)); have n10_ := Aside0.mk ((by rw [hg]; exact Nat.ne_of_gt (IsS57.lt (show IsS57 w _ g163 t161 x164001_6 from by repeat (first | (with_reducible first | exact HI163.out | apply IsS57.alloc | apply IsS57.drewN | apply IsS57.drew | apply IsS57.set_1 | refine IsS57.far ?_ NB163_164.out _) | exact HI163.out))) : gb168 ≠ g163)); clear HO_165001; clear BK164; clear HI163; clear HB; have HO_165001 := n0_; have BK164 := n1_; have HI163 := n2_; have HB := n3_; have BK168 := n4_; have GW168 := n5_; have GE168 := n6_; have NB164_168 := n7_; have NB168_164 := n8_; have NB163_168 := n9_; have NB168_163 := n10_; clear n0_ n1_ n2_ n3_ n4_ n5_ n6_ n7_ n8_ n9_ n10_; clear hb hbox hg; have hnb18 := NB168_164.out; have hnc18 := NB164_168.out; have hnb19 := NB168_163.out; have hnc19 := NB163_168.out; have hcz20_0 : w17.cell? ⟨gb168, 0, none⟩ = some (.int .i64 0) := (blk_cell BK168.out 0).trans rfl; have hcz20_1 : w17.cell? ⟨gb168, 1, none⟩ = some (.slice none 0 0) := (blk_cell BK168.out 1).trans rfl; have hfz20_0 := blk_frozen BK168.out 0; have hfz20_1 := blk_frozen BK168.out 1; obtain ⟨Ao21, co21, eo21⟩ := Kd.R_slice HO_165001.out; subst eo21) | ((with_reducible refine gate_callee (f := 14) rfl ?_); refine goesL_ (some 25) rfl rfl Try.func14 (by kernel_rfl) rfl #[.pointer (some ⟨g163, 0, none⟩), .int .i64 5] rfl (by (try simp only [List.map_toArray, List.map_cons, List.map_nil]); first | done | rfl | (simp only [List.length_drop, List.length_take]; rfl)) ?_; (with_reducible refine (groupcontrolmade_Dice_Next.calls kj6 g163 t161 x164001_6 5 t169 t170 w _ ?side1 ?side2 A12.out).mono ?_); (case side1 => repeat (first | (with_reducible first | exact HI163.out | apply IsS57.alloc | apply IsS57.drewN | apply IsS57.drew | apply IsS57.set_1 | refine IsS57.far ?_ NB163_164.out _ | refine IsS57.far ?_ NB163_168.out _) | exact HI163.out)); (case side2 => repeat (first | (with_reducible first | exact HB.out | apply below_alloc | apply pw_below_drewN | apply below_drew1 | refine below_set ?_ (IsS57.ge HI163.out) | refine below_set ?_ GE164.out | refine below_set ?_ GE168.out) | exact HB.out)); rintro e w22 ⟨rfl, hi, hb, hk⟩; refine ⟨_, rfl, ?_⟩; have n0_ := Aside0.mk (Kd.R_mono (Kd.R_keep (IsS57.apart (show IsS57 w _ g163 t161 x164001_6 from by repeat (first | (with_reducible first | exact HI163.out | apply IsS57.alloc | apply IsS57.drewN | apply IsS57.drew | apply IsS57.set_1 | refine IsS57.far ?_ NB163_164.out _ | refine IsS57.far ?_ NB163_168.out _) | exact HI163.out)) (by (with_reducible repeat (first | apply Kd.R_alloc | apply Kd.R_drewN | apply Kd.R_drew)); exact (Kd.R_mono (Kd.R_far (p := ⟨gb168, 1, none⟩) (Kd.R_far (p := ⟨gb168, 0, none⟩) (Kd.R_types HO_165001.out BK168.out (by decide)) (fun _ hk => hk.2) (.int .i64 x165000_1)) (fun _ hk => hk.2) (.slice Ao21 x165001_1.length co21)) (fun _ h_ => h_.1))) (by decide)) hk (fun _ h => h.2)) (fun _ h => h.1)); have n1_ := Aside0.mk (KeepBut.blk hk (g' := gb164) (o := .cells #[.int .i64 x165000_1, .slice Ao21 x165001_1.length co21] 29 (0, 0)) (by (with_reducible repeat (first | refine blk_drewN ?_ _ | refine blk_drew ?_ | refine blk_alloc ?_ _)); refine blk_far ?_ NB164_168.out _; (with_reducible repeat (first | refine blk_drewN ?_ _ | refine blk_drew ?_ | refine blk_alloc ?_ _)); refine blk_far ?_ NB164_168.out _; (with_reducible repeat (first | refine blk_drewN ?_ _ | refine blk_drew ?_ | refine blk_alloc ?_ _)); exact BK164.out) NB164_163.out (by simp)); have n2_ := Aside0.mk (KeepBut.blk hk (g' := gb168) (o := .cells #[.int .i64 x165000_1, .slice Ao21 x165001_1.length co21] 29 (0, 0)) (by (with_reducible repeat (first | refine blk_drewN ?_ _ | refine blk_drew ?_ | refine blk_alloc ?_ _)); refine blk_put (cs := #[.int .i64 x165000_1, .slice none 0 0]) ?_ 1 _ rfl; (with_reducible repeat (first | refine blk_drewN ?_ _ | refine blk_drew ?_ | refine blk_alloc ?_ _)); refine blk_put (cs := #[.int .i64 0, .slice none 0 0]) ?_ 0 _ rfl; (with_reducible repeat (first | refine blk_drewN ?_ _ | refine blk_drew ?_ | refine blk_alloc ?_ _)); exact BK168.out) NB168_163.out (by simp)); have n3_ := Aside0.mk (hb); have n4_ := Aside0.mk (hi); clear HO_165001; clear BK164; clear BK168; clear HB; clear HI163; have HO_165001 := n0_; have BK164 := n1_; have BK168 := n2_; have HB := n3_; have HI163 := n4_; clear n0_ n1_ n2_ n3_ n4_; (try clear hb); (try clear hb2); (try clear hk); (try clear hi)) | ((with_reducible refine gate_callee (f := 14) rfl ?_); refine goesL_ (some 28) rfl rfl Try.func14 (by kernel_rfl) rfl #[.pointer (some ⟨g163, 0, none⟩), .int .i64 8] rfl (by (try simp only [List.map_toArray, List.map_cons, List.map_nil]); first | done | rfl | (simp only [List.length_drop, List.length_take]; rfl)) ?_; (with_reducible refine (groupcontrolmade_Dice_Next.calls kj6 g163 t161 t170 8 t171 t172 w _ ?side1 ?side2 A13.out).mono ?_); (case side1 => repeat (first | (with_reducible first | exact HI163.out | apply IsS57.alloc | apply IsS57.drewN | apply IsS57.drew | apply IsS57.set_1 | refine IsS57.far ?_ NB163_164.out _ | refine IsS57.far ?_ NB163_168.out _) | exact HI163.out)); (case side2 => repeat (first | (with_reducible first | exact HB.out | apply below_alloc | apply pw_below_drewN | apply below_drew1 | refine below_set ?_ (IsS57.ge HI163.out) | refine below_set ?_ GE164.out | refine below_set ?_ GE168.out) | exact HB.out)); rintro e w23 ⟨rfl, hi, hb, hk⟩; refine ⟨_, rfl, ?_⟩; have n0_ := Aside0.mk (Kd.R_mono (Kd.R_keep (IsS57.apart (show IsS57 w _ g163 t161 t170 from by repeat (first | (with_reducible first | exact HI163.out | apply IsS57.alloc | apply IsS57.drewN | apply IsS57.drew | apply IsS57.set_1 | refine IsS57.far ?_ NB163_164.out _ | refine IsS57.far ?_ NB163_168.out _) | exact HI163.out)) (by (with_reducible repeat (first | apply Kd.R_alloc | apply Kd.R_drewN | apply Kd.R_drew)); exact HO_165001.out) (by decide)) hk (fun _ h => h.2)) (fun _ h => h.1)); have n1_ := Aside0.mk (KeepBut.blk hk (g' := gb164) (o := .cells #[.int .i64 x165000_1, .slice Ao21 x165001_1.length co21] 29 (0, 0)) (by (with_reducible repeat (first | refine blk_drewN ?_ _ | refine blk_drew ?_ | refine blk_alloc ?_ _)); exact BK164.out) NB164_163.out (by simp)); have n2_ := Aside0.mk (KeepBut.blk hk (g' := gb168) (o := .cells #[.int .i64 x165000_1, .slice Ao21 x165001_1.length co21] 29 (0, 0)) (by (with_reducible repeat (first | refine blk_drewN ?_ _ | refine blk_drew ?_ | refine blk_alloc ?_ _)); exact BK168.out) NB168_163.out (by simp)); have n3_ := Aside0.mk (hb); have n4_ := Aside0.mk (hi); clear HO_165001; clear BK164; clear BK168; clear HB; clear HI163; have HO_165001 := n0_; have BK164 := n1_; have BK168 := n2_; have HB := n3_; have HI163 := n4_; clear n0_ n1_ n2_ n3_ n4_; (try clear hb); (try clear hb2); (try clear hk); (try clear hi)))
              (try simp only [Act.put, List.setIfInBounds_toArray, List.set_cons_zero, List.set_cons_succ])
              go_cut [7] (fun v7 wc => ∃ (kq : Nat) (x7_13 : Int) (x164001_13 : Int) (x169000_13 : Int) (x169001_13 : List (S36)) (u169001 : Value), v7 = .int .i64 x7_13 ∧ Aside0 (groupcontrollaw15_VirtualKeeps.j4 kq x5_1 x7_13 t161 x164001_13 x165000_1 x165001_1 x169000_13 x169001_13 = some r) ∧ Aside0 (kq ≤ kj6) ∧ Aside0 (Kd.R k36 36 wc w.heap.size (fun _ => True) (.slice Ao21 x165001_1.length co21) x165001_1) ∧ Aside0 (Kd.R k36 36 wc w.heap.size (fun _ => True) u169001 x169001_13) ∧ Aside0 (wc.heap[gb164]? = some (.cells #[.int .i64 x165000_1, (.slice Ao21 x165001_1.length co21)] 29 (0, 0))) ∧ Aside0 (wc.heap[gb168]? = some (.cells #[.int .i64 x169000_13, u169001] 29 (0, 0))) ∧ Aside0 (IsS57 w wc g163 t161 x164001_13) ∧ Aside0 (Below w.heap.size w wc))
              case first =>
                have H := HC14.out
                clear HC14
                have HC24 := Aside0.mk H
                clear H
                go_upto_if 29 with (fail)
                go_cut [29] (fun v29 wc => ∃ (kq : Nat) (x29_23 : Bool), v29 = .bool x29_23 ∧ Aside0 (groupcontrollaw15_VirtualKeeps.j2 kq x5_1 0 (wrap64 (t169 - 2)) t171 x29_23 t161 t172 x165000_1 x165001_1 x165000_1 x165001_1 = some r) ∧ Aside0 (kq ≤ kj6) ∧ Aside0 (Kd.R k36 36 wc w.heap.size (fun _ => True) (.slice Ao21 x165001_1.length co21) x165001_1) ∧ Aside0 (Kd.R k36 36 wc w.heap.size (fun _ => True) (.slice Ao21 x165001_1.length co21) x165001_1) ∧ Aside0 (wc.heap[gb164]? = some (.cells #[.int .i64 x165000_1, (.slice Ao21 x165001_1.length co21)] 29 (0, 0))) ∧ Aside0 (wc.heap[gb168]? = some (.cells #[.int .i64 x165000_1, (.slice Ao21 x165001_1.length co21)] 29 (0, 0))) ∧ Aside0 (IsS57 w wc g163 t161 t172) ∧ Aside0 (Below w.heap.size w wc))
                case first =>
                  have H := HC24.out
                  clear HC24
                  by_cases c25 : t171 = 0
                  · rw [if_pos c25] at H
                    have c25b0 : (t171 == 0) = true := beq_iff_eq.mpr c25
                    have c25b1 : (t171 != 0) = false := bne_eq_false_iff_eq.mpr c25
                    clear c25
                    (first | rw [c25b0] | (simp only [i64_w, i32_w]; rw [c25b0]) | skip)
                    have H' := Aside0.mk H
                    clear H
                    go_wp2
                    go_meet
                    case rel => exact ⟨_, ((t171 == 0)), (by first | rfl | (simp; done) | (simp [*]; done)), H', ⟨by have := HK1.out; have := HJ6.out; first | omega | exact Nat.le_refl _⟩, ⟨by (with_reducible repeat (first | apply Kd.R_alloc | apply Kd.R_drewN | apply Kd.R_drew)); exact HO_165001.out⟩, ⟨by (with_reducible repeat (first | apply Kd.R_alloc | apply Kd.R_drewN | apply Kd.R_drew)); exact HO_165001.out⟩, ⟨by (with_reducible repeat (first | refine blk_drewN ?_ _ | refine blk_drew ?_ | refine blk_alloc ?_ _)); exact BK164.out⟩, ⟨by (with_reducible repeat (first | refine blk_drewN ?_ _ | refine blk_drew ?_ | refine blk_alloc ?_ _)); exact BK168.out⟩, ⟨by repeat (first | (with_reducible first | exact HI163.out | apply IsS57.alloc | apply IsS57.drewN | apply IsS57.drew | apply IsS57.set_1 | refine IsS57.far ?_ NB163_164.out _ | refine IsS57.far ?_ NB163_168.out _) | exact HI163.out)⟩, ⟨by repeat (first | (with_reducible first | exact HB.out | apply below_alloc | apply pw_below_drewN | apply below_drew1 | refine below_set ?_ (IsS57.ge HI163.out) | refine below_set ?_ GE164.out | refine below_set ?_ GE168.out) | exact HB.out)⟩⟩
                  · rw [if_neg c25] at H
                    have c25b0 : (t171 == 0) = false := beq_eq_false_iff_ne.mpr c25
                    have c25b1 : (t171 != 0) = true := bne_iff_ne.mpr c25
                    (first | rw [c25b0] | (simp only [i64_w, i32_w]; rw [c25b0]) | skip)
                    have H' := Aside0.mk H
                    clear H
                    go_wp2
                    go_meet
                    case rel => exact ⟨_, ((t171 == 1)), (by first | rfl | (simp; done) | (simp [*]; done)), H', ⟨by have := HK1.out; have := HJ6.out; first | omega | exact Nat.le_refl _⟩, ⟨by (with_reducible repeat (first | apply Kd.R_alloc | apply Kd.R_drewN | apply Kd.R_drew)); exact HO_165001.out⟩, ⟨by (with_reducible repeat (first | apply Kd.R_alloc | apply Kd.R_drewN | apply Kd.R_drew)); exact HO_165001.out⟩, ⟨by (with_reducible repeat (first | refine blk_drewN ?_ _ | refine blk_drew ?_ | refine blk_alloc ?_ _)); exact BK164.out⟩, ⟨by (with_reducible repeat (first | refine blk_drewN ?_ _ | refine blk_drew ?_ | refine blk_alloc ?_ _)); exact BK168.out⟩, ⟨by repeat (first | (with_reducible first | exact HI163.out | apply IsS57.alloc | apply IsS57.drewN | apply IsS57.drew | apply IsS57.set_1 | refine IsS57.far ?_ NB163_164.out _ | refine IsS57.far ?_ NB163_168.out _) | exact HI163.out)⟩, ⟨by repeat (first | (with_reducible first | exact HB.out | apply below_alloc | apply pw_below_drewN | apply below_drew1 | refine below_set ?_ (IsS57.ge HI163.out) | refine below_set ?_ GE164.out | refine below_set ?_ GE168.out) | exact HB.out)⟩⟩
                case rest =>
                  clear HC24
                  try clear c1
                  try clear c2
                  try clear p2
                  try clear c3
                  try clear p6
                  try clear c8
                  try clear c8b0
                  try clear c10
                  try clear c11
                  try clear c12
                  try clear c14
                  try clear c15
                  try clear c18
                  try clear c19
                  try clear c25
                  try clear c25b0
                  try clear c25b1
                  try clear hcz16_0
                  try clear hcz16_1
                  try clear hcz20_0
                  try clear hcz20_1
                  try clear hfz16_0
                  try clear hfz16_1
                  try clear hfz20_0
                  try clear hfz20_1
                  try clear p2
                  obtain ⟨kq, x29_23, rfl, HA, HJ23, HO_165001, HO_169001, BK164, BK168, HI163, HB⟩ := hcut
                  cases kq with
                  | zero => exact absurd HA.out (by simp [groupcontrollaw15_VirtualKeeps.j2])
                  | succ kj23 =>
                    have H := HA.out
                    clear HA
                    simp only [groupcontrollaw15_VirtualKeeps.j2] at H
                    by_cases c26 : x29_23 = true
                    · subst c26
                      have H1 : ((groupcontrolmade_Dice_Weight.f kj23 t161 t172).bind fun bt173 => ((virtual_Add.f x165000_1 x165001_1 (wrap64 (t169 - 2)) bt173.1).bind fun bt175 => (groupcontrollaw15_VirtualKeeps.j4 kj23 x5_1 bt175.2.2 t161 bt173.2 x165000_1 x165001_1 bt175.1 bt175.2.1))) = some r := by rw [if_pos rfl] at H; exact H
                      clear H
                      have H := H1
                      clear H1
                      replace H := Option.bind_eq_some_iff.mp H
                      obtain ⟨⟨t173, t174⟩, A270, H⟩ := H
                      replace H : ((virtual_Add.f x165000_1 x165001_1 (wrap64 (t169 - 2)) t173).bind fun bt175 => (groupcontrollaw15_VirtualKeeps.j4 kj23 x5_1 bt175.2.2 t161 t174 x165000_1 x165001_1 bt175.1 bt175.2.1)) = some r := H
                      have A27 := Aside0.mk A270
                      clear A270
                      replace H := Option.bind_eq_some_iff.mp H
                      obtain ⟨⟨t175, t176, t179⟩, A280, H⟩ := H
                      replace H : (groupcontrollaw15_VirtualKeeps.j4 kj23 x5_1 t179 t161 t174 x165000_1 x165001_1 t175 t176) = some r := H
                      have A28 := Aside0.mk A280
                      clear A280
                      have H' := Aside0.mk H
                      clear H
                      try go_wp2
                      have n0_ := Aside0.mk (Kd.R_drew HO_165001.out)
                      have n1_ := Aside0.mk (Kd.R_drew HO_169001.out)
                      have n2_ := Aside0.mk (blk_drew BK164.out)
                      have n3_ := Aside0.mk (blk_drew BK168.out)
                      have n4_ := Aside0.mk (IsS57.drew HI163.out)
                      have n5_ := Aside0.mk (below_drew1 HB.out)
                      clear HO_165001
                      clear HO_169001
                      clear BK164
                      clear BK168
                      clear HI163
                      clear HB
                      have HO_165001 := n0_
                      have HO_169001 := n1_
                      have BK164 := n2_
                      have BK168 := n3_
                      have HI163 := n4_
                      have HB := n5_
                      clear n0_ n1_ n2_ n3_ n4_ n5_
                      refine start_ (n := 10) (S := fun w' => w'.cell? ⟨gb164, 0, none⟩ = some (.int .i64 x165000_1) ∧ w'.cell? ⟨gb164, 1, none⟩ = some (.slice Ao21 x165001_1.length co21)) (ds := []) #[false, false, false, false, false, false, false, false, false, false] (by kernel_rfl) rfl rfl ⟨(blk_cell BK164.out 0).trans rfl, (blk_cell BK164.out 1).trans rfl⟩ (fun hHeld => ?_); refine with_tabW groupcontrollaw15_VirtualKeeps.tab13 groupcontrollaw15_VirtualKeeps.bits13 (fun HT_ HW_ => ?_)
                      generalize wc.drew = w29 at HO_165001 HO_169001 BK164 BK168 HI163 HB hHeld ⊢
                      refine pure_ (i := 1) (N := some 34) (v := ?_) (a' := ?_) #[false, true, false, false, false, false, false, false, false, false] rfl rfl (any_of HT_.out (by kernel_rfl)) (fun _ _ _ h => h) (Or.inl ⟨by rfl, ?_⟩) ?_ ?_
                      rotate_left
                      · intro w'
                        go_simp
                        with_reducible rfl
                      rotate_left
                      · simp only [Act.put, List.setIfInBounds_toArray, List.set_cons_zero, List.set_cons_succ, i64_w, i32_w]
                        rfl
                      refine pure_ (i := 2) (N := some 35) (v := ?_) (a' := ?_) #[false, true, true, false, false, false, false, false, false, false] rfl rfl (any_of HT_.out (by kernel_rfl)) (fun _ _ _ h => h) (Or.inl ⟨by rfl, ?_⟩) ?_ ?_
                      rotate_left
                      · intro w'
                        go_simp
                        with_reducible rfl
                      rotate_left
                      · simp only [Act.put, List.setIfInBounds_toArray, List.set_cons_zero, List.set_cons_succ, i64_w, i32_w]
                        rfl
                      refine take_ (i := 0) (N := some 33) (v := ?_) (a' := ?_) #[true, true, true, false, false, false, false, false, false, false] rfl rfl (take_ofW HT_.out HW_.out (by kernel_rfl)) (fun _ _ _ h => h) (Or.inl ⟨by rfl, ?_⟩) hHeld ?_ ?_
                      rotate_left
                      · rintro w' ⟨s0, s1⟩
                        go_simp
                        with_reducible rfl
                      rotate_left
                      · simp only [Act.put, List.setIfInBounds_toArray, List.set_cons_zero, List.set_cons_succ, i64_w, i32_w]
                        rfl
                      refine one_ (i := 3) (N := some 36) #[true, true, true, true, false, false, false, false, false, false] rfl rfl (one_of HT_.out (by kernel_rfl)) (by decide) (fun K hK => ?_)
                      refine goes_ Try.func26 (by kernel_rfl) rfl #[.pointer (some ⟨g163, 0, none⟩)] (by rfl) rfl rfl (by (try simp only [List.map_toArray, List.map_cons, List.map_nil]); first | done | rfl | (simp only [List.length_drop, List.length_take]; rfl)) ?_
                      with_reducible refine (groupcontrolmade_Dice_Weight.calls kj23 g163 t161 t172 t173 t174 w _ ?side1 ?side2 A27.out).mono ?_
                      (case side1 => repeat (first | (with_reducible first | exact HI163.out | apply IsS57.alloc | apply IsS57.drewN | apply IsS57.drew | apply IsS57.set_1 | refine IsS57.far ?_ NB163_164.out _ | refine IsS57.far ?_ NB163_168.out _) | exact HI163.out))
                      (case side2 => repeat (first | (with_reducible first | exact HB.out | apply below_alloc | apply pw_below_drewN | apply below_drew1 | refine below_set ?_ (IsS57.ge HI163.out) | refine below_set ?_ GE164.out | refine below_set ?_ GE168.out) | exact HB.out))
                      rintro e w30 ⟨rfl, hi, hb, hk⟩
                      refine ⟨_, rfl, ?_⟩
                      have n0_ := Aside0.mk (Kd.R_mono (Kd.R_keep (IsS57.apart (show IsS57 w _ g163 t161 t172 from by repeat (first | (with_reducible first | exact HI163.out | apply IsS57.alloc | apply IsS57.drewN | apply IsS57.drew | apply IsS57.set_1 | refine IsS57.far ?_ NB163_164.out _ | refine IsS57.far ?_ NB163_168.out _) | exact HI163.out)) (by (with_reducible repeat (first | apply Kd.R_alloc | apply Kd.R_drewN | apply Kd.R_drew)); exact HO_165001.out) (by decide)) hk (fun _ h => h.2)) (fun _ h => h.1))
                      have n1_ := Aside0.mk (Kd.R_mono (Kd.R_keep (IsS57.apart (show IsS57 w _ g163 t161 t172 from by repeat (first | (with_reducible first | exact HI163.out | apply IsS57.alloc | apply IsS57.drewN | apply IsS57.drew | apply IsS57.set_1 | refine IsS57.far ?_ NB163_164.out _ | refine IsS57.far ?_ NB163_168.out _) | exact HI163.out)) (by (with_reducible repeat (first | apply Kd.R_alloc | apply Kd.R_drewN | apply Kd.R_drew)); exact HO_169001.out) (by decide)) hk (fun _ h => h.2)) (fun _ h => h.1))
                      have n2_ := Aside0.mk (KeepBut.blk hk (g' := gb164) (o := .cells #[.int .i64 x165000_1, .slice Ao21 x165001_1.length co21] 29 (0, 0)) (by (with_reducible repeat (first | refine blk_drewN ?_ _ | refine blk_drew ?_ | refine blk_alloc ?_ _)); exact BK164.out) NB164_163.out (by simp))
                      have n3_ := Aside0.mk (KeepBut.blk hk (g' := gb168) (o := .cells #[.int .i64 x165000_1, .slice Ao21 x165001_1.length co21] 29 (0, 0)) (by (with_reducible repeat (first | refine blk_drewN ?_ _ | refine blk_drew ?_ | refine blk_alloc ?_ _)); exact BK168.out) NB168_163.out (by simp))
                      have n4_ := Aside0.mk (hb)
                      have n5_ := Aside0.mk (hi)
                      clear HO_165001
                      clear HO_169001
                      clear BK164
                      clear BK168
                      clear HB
                      clear HI163
                      have HO_165001 := n0_
                      have HO_169001 := n1_
                      have BK164 := n2_
                      have BK168 := n3_
                      have HB := n4_
                      have HI163 := n5_
                      clear n0_ n1_ n2_ n3_ n4_ n5_
                      (try clear hb)
                      (try clear hb2)
                      (try clear hk)
                      (try clear hi)
                      refine hK.out _ _ ⟨(blk_cell BK164.out 0).trans rfl, (blk_cell BK164.out 1).trans rfl⟩ (fun hHeld => ?_)
                      clear hK K
                      refine norm_ (a' := ?_) ?_ ?_
                      rotate_left
                      · show Act.put _ (some 36) _ = _
                        simp only [Act.put, List.setIfInBounds_toArray, List.set_cons_zero, List.set_cons_succ, i64_w, i32_w]
                        rfl
                      refine one_ (i := 4) (N := some 37) #[true, true, true, true, true, false, false, false, false, false] rfl rfl (one_of HT_.out (by kernel_rfl)) (by decide) (fun K hK => ?_)
                      refine goes_ Try.func31 (by kernel_rfl) rfl #[.agg #[.int .i64 x165000_1, .slice Ao21 x165001_1.length co21], .int .i64 (wrap64 (t169 - 2)), .int .i64 t173] (by rfl) rfl rfl (by (try simp only [List.map_toArray, List.map_cons, List.map_nil]); first | done | rfl | (simp only [List.length_drop, List.length_take]; rfl)) ?_
                      with_reducible refine (virtual_Add.calls x165000_1 _ _ x165001_1 (wrap64 (t169 - 2)) t173 t175 t176 t179 _ ?side1 ?side2 A28.out).mono ?_
                      (case side1 => repeat (first | exact (Kd.R_reads' HO_165001.out).2.2 | (with_reducible refine Kd.C_alloc ?_ _) | (with_reducible refine Kd.C_drewN ?_ _) | (with_reducible refine Kd.C_drew ?_)))
                      (case side2 => exact (Kd.R_reads' HO_165001.out).2.1)
                      rintro e w31 ⟨v177, rfl, ho0, hb⟩
                      refine ⟨_, rfl, ?_⟩
                      have n0_ := Aside0.mk (Kd.R_elder' (by (with_reducible repeat (first | apply Kd.R_alloc | apply Kd.R_drewN | apply Kd.R_drew)); exact HO_165001.out) (Kd.R_base ho0) hb)
                      have n1_ := Aside0.mk (Kd.R_elder' (by (with_reducible repeat (first | apply Kd.R_alloc | apply Kd.R_drewN | apply Kd.R_drew)); exact HO_169001.out) (Kd.R_base ho0) hb)
                      have n2_ := Aside0.mk (Kd.R_lower (Kd.R_new' (Kd.R_new' ho0 (Kd.R_lt (by (with_reducible repeat (first | apply Kd.R_alloc | apply Kd.R_drewN | apply Kd.R_drew)); exact HO_165001.out))) (Kd.R_lt (by (with_reducible repeat (first | apply Kd.R_alloc | apply Kd.R_drewN | apply Kd.R_drew)); exact HO_169001.out))) (below_size (by repeat (first | (with_reducible first | exact HB.out | apply below_alloc | apply pw_below_drewN | apply below_drew1 | refine below_set ?_ (IsS57.ge HI163.out) | refine below_set ?_ GE164.out | refine below_set ?_ GE168.out) | exact HB.out))))
                      have n3_ := Aside0.mk (blk_below (g := gb164) (o := .cells #[.int .i64 x165000_1, .slice Ao21 x165001_1.length co21] 29 (0, 0)) (by (with_reducible repeat (first | refine blk_drewN ?_ _ | refine blk_drew ?_ | refine blk_alloc ?_ _)); exact BK164.out) hb)
                      have n4_ := Aside0.mk (blk_below (g := gb168) (o := .cells #[.int .i64 x165000_1, .slice Ao21 x165001_1.length co21] 29 (0, 0)) (by (with_reducible repeat (first | refine blk_drewN ?_ _ | refine blk_drew ?_ | refine blk_alloc ?_ _)); exact BK168.out) hb)
                      have n5_ := Aside0.mk (IsS57.below (by repeat (first | (with_reducible first | exact HI163.out | apply IsS57.alloc | apply IsS57.drewN | apply IsS57.drew | apply IsS57.set_1 | refine IsS57.far ?_ NB163_164.out _ | refine IsS57.far ?_ NB163_168.out _) | exact HI163.out)) hb)
                      have n6_ := Aside0.mk (below_step (by repeat (first | (with_reducible first | exact HB.out | apply below_alloc | apply pw_below_drewN | apply below_drew1 | refine below_set ?_ (IsS57.ge HI163.out) | refine below_set ?_ GE164.out | refine below_set ?_ GE168.out) | exact HB.out)) hb)
                      clear HO_165001
                      clear HO_169001
                      clear BK164
                      clear BK168
                      clear HI163
                      clear HB
                      have HO_165001 := n0_
                      have HO_169001 := n1_
                      have HO178 := n2_
                      have BK164 := n3_
                      have BK168 := n4_
                      have HI163 := n5_
                      have HB := n6_
                      clear n0_ n1_ n2_ n3_ n4_ n5_ n6_
                      (try clear hb)
                      (try clear hb2)
                      (try clear hk)
                      (try clear hi)
                      (try clear ho0)
                      obtain ⟨Ao33, co33, eo33⟩ := Kd.R_slice HO178.out
                      (first | subst eo33 | (injection eo33 with f1_ f2_ f3_; have f4_ := f1_.symm; have f5_ := f3_.symm; clear f1_ f2_ f3_; subst f4_; subst f5_))
                      refine hK.out _ _ ⟨(blk_cell BK164.out 0).trans rfl, (blk_cell BK164.out 1).trans rfl⟩ (fun hHeld => ?_)
                      clear hK K
                      refine norm_ (a' := ?_) ?_ ?_
                      rotate_left
                      · show Act.put _ (some 37) _ = _
                        simp only [Act.put, List.setIfInBounds_toArray, List.set_cons_zero, List.set_cons_succ, i64_w, i32_w]
                        rfl
                      refine pure_ (i := 5) (N := some 32) (v := ?_) (a' := ?_) #[true, true, true, true, true, true, false, false, false, false] rfl rfl (any_of HT_.out (by kernel_rfl)) (fun _ _ _ h => h) (Or.inl ⟨by rfl, ?_⟩) ?_ ?_
                      rotate_left
                      · intro w'
                        go_simp
                        with_reducible rfl
                      rotate_left
                      · simp only [Act.put, List.setIfInBounds_toArray, List.set_cons_zero, List.set_cons_succ, i64_w, i32_w]
                        rfl
                      refine pure_ (i := 6) (N := some 38) (v := ?_) (a' := ?_) #[true, true, true, true, true, true, true, false, false, false] rfl rfl (any_of HT_.out (by kernel_rfl)) (fun _ _ _ h => h) (Or.inl ⟨by rfl, ?_⟩) ?_ ?_
                      rotate_left
                      · intro w'
                        go_simp
                        with_reducible rfl
                      rotate_left
                      · simp only [Act.put, List.setIfInBounds_toArray, List.set_cons_zero, List.set_cons_succ, i64_w, i32_w]
                        rfl
                      refine pure_ (i := 7) (N := some 39) (v := ?_) (a' := ?_) #[true, true, true, true, true, true, true, true, false, false] rfl rfl (any_of HT_.out (by kernel_rfl)) (fun _ _ _ h => h) (Or.inl ⟨by rfl, ?_⟩) ?_ ?_
                      rotate_left
                      · intro w'
                        go_simp
                        with_reducible rfl
                      rotate_left
                      · simp only [Act.put, List.setIfInBounds_toArray, List.set_cons_zero, List.set_cons_succ, i64_w, i32_w]
                        rfl
                      refine one_ (i := 8) (N := none) #[true, true, true, true, true, true, true, true, true, false] rfl rfl (one_of HT_.out (by kernel_rfl)) (by decide) (fun K hK => ?_)
                      have hs32 : w31.cell? ⟨gb168, 0, none⟩ = some (.int .i64 x165000_1) := (blk_cell BK168.out 0).trans rfl
                      have hfs32 := blk_frozen BK168.out 0
                      have hns32_0 := NB164_168.out
                      have hms32_0 := NB168_164.out
                      have hs34 : w31.cell? ⟨gb168, 1, none⟩ = some (.slice Ao21 x165001_1.length co21) := (blk_cell BK168.out 1).trans rfl
                      have hfs34 := blk_frozen BK168.out 1
                      have hns34_0 := NB164_168.out
                      have hms34_0 := NB168_164.out
                      refine skip_ (w1 := ?_) (by rfl) rfl ?_ ?_
                      rotate_left
                      · go_simp
                        rfl
                      refine hK.out _ _ ⟨((cell_far (p := ⟨gb168, _, none⟩) NB164_168.out _).trans (((cell_far (p := ⟨gb168, _, none⟩) NB164_168.out _).trans (hHeld.1)))), ((cell_far (p := ⟨gb168, _, none⟩) NB164_168.out _).trans (((cell_far (p := ⟨gb168, _, none⟩) NB164_168.out _).trans (hHeld.2))))⟩ (fun hHeld => ?_)
                      clear hK K
                      refine pure_ (i := 9) (N := some 7) (v := ?_) (a' := ?_) #[true, true, true, true, true, true, true, true, true, true] rfl rfl (any_of HT_.out (by kernel_rfl)) (fun _ _ _ h => h) (Or.inl ⟨by rfl, ?_⟩) ?_ ?_
                      rotate_left
                      · intro w'
                        go_simp
                        with_reducible rfl
                      rotate_left
                      · simp only [Act.put, List.setIfInBounds_toArray, List.set_cons_zero, List.set_cons_succ, i64_w, i32_w]
                        rfl
                      refine done_ (done_of HT_.out (by kernel_rfl)) ?_
                      try go_wp2
                      go_meet
                      case rel => exact ⟨_, (t179), (t174), (t175), (t176), (.slice Ao33 t176.length co33), (by first | rfl | (simp; done) | (simp [*]; done)), H', ⟨by have := HK1.out; have := HJ6.out; have := HJ23.out; first | omega | exact Nat.le_refl _⟩, ⟨by (with_reducible repeat (first | apply Kd.R_alloc | apply Kd.R_drewN | apply Kd.R_drew)); exact Kd.R_mono (Kd.R_far (p := ⟨gb168, 1, none⟩) (Kd.R_far (p := ⟨gb168, 0, none⟩) (Kd.R_types HO_165001.out BK168.out (by decide)) (fun _ hk => hk.2) (.int .i64 t175)) (fun _ hk => hk.2) (.slice Ao33 t176.length co33)) (fun _ hk => by first | exact hk.1.2 | trivial)⟩, ⟨by (with_reducible repeat (first | apply Kd.R_alloc | apply Kd.R_drewN | apply Kd.R_drew)); exact Kd.R_mono (Kd.R_far (p := ⟨gb168, 1, none⟩) (Kd.R_far (p := ⟨gb168, 0, none⟩) (Kd.R_types HO178.out BK168.out (by decide)) (fun _ hk => hk.2) (.int .i64 t175)) (fun _ hk => hk.2) (.slice Ao33 t176.length co33)) (fun _ hk => by first | exact hk.1.1.2 | trivial)⟩, ⟨by (with_reducible repeat (first | refine blk_drewN ?_ _ | refine blk_drew ?_ | refine blk_alloc ?_ _)); refine blk_far ?_ NB164_168.out _; (with_reducible repeat (first | refine blk_drewN ?_ _ | refine blk_drew ?_ | refine blk_alloc ?_ _)); refine blk_far ?_ NB164_168.out _; (with_reducible repeat (first | refine blk_drewN ?_ _ | refine blk_drew ?_ | refine blk_alloc ?_ _)); exact BK164.out⟩, ⟨by (with_reducible repeat (first | refine blk_drewN ?_ _ | refine blk_drew ?_ | refine blk_alloc ?_ _)); refine blk_put (cs := #[.int .i64 t175, .slice Ao21 x165001_1.length co21]) ?_ 1 _ rfl; (with_reducible repeat (first | refine blk_drewN ?_ _ | refine blk_drew ?_ | refine blk_alloc ?_ _)); refine blk_put (cs := #[.int .i64 x165000_1, .slice Ao21 x165001_1.length co21]) ?_ 0 _ rfl; (with_reducible repeat (first | refine blk_drewN ?_ _ | refine blk_drew ?_ | refine blk_alloc ?_ _)); exact BK168.out⟩, ⟨by repeat (first | (with_reducible first | exact HI163.out | apply IsS57.alloc | apply IsS57.drewN | apply IsS57.drew | apply IsS57.set_1 | refine IsS57.far ?_ NB163_164.out _ | refine IsS57.far ?_ NB163_168.out _) | exact HI163.out)⟩, ⟨by repeat (first | (with_reducible first | exact HB.out | apply below_alloc | apply pw_below_drewN | apply below_drew1 | refine below_set ?_ (IsS57.ge HI163.out) | refine below_set ?_ GE164.out | refine below_set ?_ GE168.out) | exact HB.out)⟩⟩
                    · replace c26 := Bool.eq_false_iff.mpr c26
                      subst c26
                      have H1 : (if t171 = 2 then ((virtual_Wake.f x165000_1 x165001_1 (wrap64 (t169 - 2))).bind fun bt180 => (groupcontrollaw15_VirtualKeeps.j4 kj23 x5_1 bt180.2.2 t161 t172 x165000_1 x165001_1 bt180.1 bt180.2.1)) else (if t171 = 3 then ((virtual_Sleep.f x165000_1 x165001_1 (wrap64 (t169 - 2))).bind fun bt185 => (groupcontrollaw15_VirtualKeeps.j4 kj23 x5_1 bt185.2.2 t161 t172 x165000_1 x165001_1 bt185.1 bt185.2.1)) else (if t171 = 4 then (groupcontrollaw15_VirtualKeeps.j3 kj23 x5_1 0 (wrap64 (t169 - 2)) t171 (t171 == 4) t161 t172 x165000_1 x165001_1 x165000_1 x165001_1) else (groupcontrollaw15_VirtualKeeps.j3 kj23 x5_1 0 (wrap64 (t169 - 2)) t171 (t171 == 5) t161 t172 x165000_1 x165001_1 x165000_1 x165001_1)))) = some r := by rw [if_neg (show ¬ (false = true) by decide)] at H; exact H
                      clear H
                      have H := H1
                      clear H1
                      by_cases c35 : t171 = 2
                      · rw [if_pos c35] at H
                        have c35b0 : (t171 == 2) = true := beq_iff_eq.mpr c35
                        have c35b1 : (t171 != 2) = false := bne_eq_false_iff_eq.mpr c35
                        clear c35
                        replace H := Option.bind_eq_some_iff.mp H
                        obtain ⟨⟨t180, t181, t184⟩, A360, H⟩ := H
                        replace H : (groupcontrollaw15_VirtualKeeps.j4 kj23 x5_1 t184 t161 t172 x165000_1 x165001_1 t180 t181) = some r := H
                        have A36 := Aside0.mk A360
                        clear A360
                        have H' := Aside0.mk H
                        clear H
                        have hnb37 := NB164_168.out
                        have hnc37 := NB168_164.out
                        have hnb38 := NB164_163.out
                        have hnc38 := NB163_164.out
                        have hcz39_0 : wc.cell? ⟨gb164, 0, none⟩ = some (.int .i64 x165000_1) := (blk_cell BK164.out 0).trans rfl
                        have hcz39_1 : wc.cell? ⟨gb164, 1, none⟩ = some (.slice Ao21 x165001_1.length co21) := (blk_cell BK164.out 1).trans rfl
                        have hfz39_0 := blk_frozen BK164.out 0
                        have hfz39_1 := blk_frozen BK164.out 1
                        go_wp2_with (first | ((with_reducible refine gate_callee (f := 15) rfl ?_); refine goesL_ (some 45) rfl rfl Try.func15 (by kernel_rfl) rfl #[.agg #[.int .i64 x165000_1, .slice Ao21 x165001_1.length co21], .int .i64 (wrap64 (t169 - 2))] rfl (by (try simp only [List.map_toArray, List.map_cons, List.map_nil]); first | done | rfl | (simp only [List.length_drop, List.length_take]; rfl)) ?_; (with_reducible refine (virtual_Wake.calls x165000_1 _ _ x165001_1 (wrap64 (t169 - 2)) t180 t181 t184 _ ?side1 ?side2 A36.out).mono ?_); (case side1 => repeat (first | exact (Kd.R_reads' HO_165001.out).2.2 | (with_reducible refine Kd.C_alloc ?_ _) | (with_reducible refine Kd.C_drewN ?_ _) | (with_reducible refine Kd.C_drew ?_))); (case side2 => exact (Kd.R_reads' HO_165001.out).2.1); rintro e w40 ⟨v182, rfl, ho0, hb⟩; refine ⟨_, rfl, ?_⟩; have n0_ := Aside0.mk (Kd.R_elder' (by (with_reducible repeat (first | apply Kd.R_alloc | apply Kd.R_drewN | apply Kd.R_drew)); exact HO_165001.out) (Kd.R_base ho0) hb); have n1_ := Aside0.mk (Kd.R_elder' (by (with_reducible repeat (first | apply Kd.R_alloc | apply Kd.R_drewN | apply Kd.R_drew)); exact HO_169001.out) (Kd.R_base ho0) hb); have n2_ := Aside0.mk (Kd.R_lower (Kd.R_new' (Kd.R_new' ho0 (Kd.R_lt (by (with_reducible repeat (first | apply Kd.R_alloc | apply Kd.R_drewN | apply Kd.R_drew)); exact HO_165001.out))) (Kd.R_lt (by (with_reducible repeat (first | apply Kd.R_alloc | apply Kd.R_drewN | apply Kd.R_drew)); exact HO_169001.out))) (below_size (by repeat (first | (with_reducible first | exact HB.out | apply below_alloc | apply pw_below_drewN | apply below_drew1 | refine below_set ?_ (IsS57.ge HI163.out) | refine below_set ?_ GE164.out | refine below_set ?_ GE168.out) | exact HB.out)))); have n3_ := Aside0.mk (blk_below (g := gb164) (o := .cells #[.int .i64 x165000_1, .slice Ao21 x165001_1.length co21] 29 (0, 0)) (by (with_reducible repeat (first | refine blk_drewN ?_ _ | refine blk_drew ?_ | refine blk_alloc ?_ _)); exact BK164.out) hb); have n4_ := Aside0.mk (blk_below (g := gb168) (o := .cells #[.int .i64 x165000_1, .slice Ao21 x165001_1.length co21] 29 (0, 0)) (by (with_reducible repeat (first | refine blk_drewN ?_ _ | refine blk_drew ?_ | refine blk_alloc ?_ _)); exact BK168.out) hb); have n5_ := Aside0.mk (IsS57.below (by repeat (first | (with_reducible first | exact HI163.out | apply IsS57.alloc | apply IsS57.drewN | apply IsS57.drew | apply IsS57.set_1 | refine IsS57.far ?_ NB163_164.out _ | refine IsS57.far ?_ NB163_168.out _) | exact HI163.out)) hb); have n6_ := Aside0.mk (below_step (by repeat (first | (with_reducible first | exact HB.out | apply below_alloc | apply pw_below_drewN | apply below_drew1 | refine below_set ?_ (IsS57.ge HI163.out) | refine below_set ?_ GE164.out | refine below_set ?_ GE168.out) | exact HB.out)) hb); clear HO_165001; clear HO_169001; clear BK164; clear BK168; clear HI163; clear HB; have HO_165001 := n0_; have HO_169001 := n1_; have HO183 := n2_; have BK164 := n3_; have BK168 := n4_; have HI163 := n5_; have HB := n6_; clear n0_ n1_ n2_ n3_ n4_ n5_ n6_; (try clear hb); (try clear hb2); (try clear hk); (try clear hi); (try clear ho0); have hnb41 := NB168_163.out; have hnc41 := NB163_168.out; have hcz42_0 : w40.cell? ⟨gb168, 0, none⟩ = some (.int .i64 x165000_1) := (blk_cell BK168.out 0).trans rfl; have hcz42_1 : w40.cell? ⟨gb168, 1, none⟩ = some (.slice Ao21 x165001_1.length co21) := (blk_cell BK168.out 1).trans rfl; have hfz42_0 := blk_frozen BK168.out 0; have hfz42_1 := blk_frozen BK168.out 1; obtain ⟨Ao43, co43, eo43⟩ := Kd.R_slice HO183.out; subst eo43))
                        go_meet
                        case rel => exact ⟨_, (t184), (t172), (t180), (t181), (.slice Ao43 t181.length co43), (by first | rfl | (simp; done) | (simp [*]; done)), H', ⟨by have := HK1.out; have := HJ6.out; have := HJ23.out; first | omega | exact Nat.le_refl _⟩, ⟨by (with_reducible repeat (first | apply Kd.R_alloc | apply Kd.R_drewN | apply Kd.R_drew)); exact Kd.R_mono (Kd.R_far (p := ⟨gb168, 1, none⟩) (Kd.R_far (p := ⟨gb168, 0, none⟩) (Kd.R_types HO_165001.out BK168.out (by decide)) (fun _ hk => hk.2) (.int .i64 t180)) (fun _ hk => hk.2) (.slice Ao43 t181.length co43)) (fun _ hk => by first | exact hk.1.2 | trivial)⟩, ⟨by (with_reducible repeat (first | apply Kd.R_alloc | apply Kd.R_drewN | apply Kd.R_drew)); exact Kd.R_mono (Kd.R_far (p := ⟨gb168, 1, none⟩) (Kd.R_far (p := ⟨gb168, 0, none⟩) (Kd.R_types HO183.out BK168.out (by decide)) (fun _ hk => hk.2) (.int .i64 t180)) (fun _ hk => hk.2) (.slice Ao43 t181.length co43)) (fun _ hk => by first | exact hk.1.1.2 | trivial)⟩, ⟨by (with_reducible repeat (first | refine blk_drewN ?_ _ | refine blk_drew ?_ | refine blk_alloc ?_ _)); refine blk_far ?_ NB164_168.out _; (with_reducible repeat (first | refine blk_drewN ?_ _ | refine blk_drew ?_ | refine blk_alloc ?_ _)); refine blk_far ?_ NB164_168.out _; (with_reducible repeat (first | refine blk_drewN ?_ _ | refine blk_drew ?_ | refine blk_alloc ?_ _)); exact BK164.out⟩, ⟨by (with_reducible repeat (first | refine blk_drewN ?_ _ | refine blk_drew ?_ | refine blk_alloc ?_ _)); refine blk_put (cs := #[.int .i64 t180, .slice Ao21 x165001_1.length co21]) ?_ 1 _ rfl; (with_reducible repeat (first | refine blk_drewN ?_ _ | refine blk_drew ?_ | refine blk_alloc ?_ _)); refine blk_put (cs := #[.int .i64 x165000_1, .slice Ao21 x165001_1.length co21]) ?_ 0 _ rfl; (with_reducible repeat (first | refine blk_drewN ?_ _ | refine blk_drew ?_ | refine blk_alloc ?_ _)); exact BK168.out⟩, ⟨by repeat (first | (with_reducible first | exact HI163.out | apply IsS57.alloc | apply IsS57.drewN | apply IsS57.drew | apply IsS57.set_1 | refine IsS57.far ?_ NB163_164.out _ | refine IsS57.far ?_ NB163_168.out _) | exact HI163.out)⟩, ⟨by repeat (first | (with_reducible first | exact HB.out | apply below_alloc | apply pw_below_drewN | apply below_drew1 | refine below_set ?_ (IsS57.ge HI163.out) | refine below_set ?_ GE164.out | refine below_set ?_ GE168.out) | exact HB.out)⟩⟩
                      · rw [if_neg c35] at H
                        have c35b0 : (t171 == 2) = false := beq_eq_false_iff_ne.mpr c35
                        have c35b1 : (t171 != 2) = true := bne_iff_ne.mpr c35
                        by_cases c44 : t171 = 3
                        · rw [if_pos c44] at H
                          have c44b0 : (t171 == 3) = true := beq_iff_eq.mpr c44
                          have c44b1 : (t171 != 3) = false := bne_eq_false_iff_eq.mpr c44
                          clear c44
                          replace H := Option.bind_eq_some_iff.mp H
                          obtain ⟨⟨t185, t186, t189⟩, A450, H⟩ := H
                          replace H : (groupcontrollaw15_VirtualKeeps.j4 kj23 x5_1 t189 t161 t172 x165000_1 x165001_1 t185 t186) = some r := H
                          have A45 := Aside0.mk A450
                          clear A450
                          have H' := Aside0.mk H
                          clear H
                          have hnb46 := NB164_168.out
                          have hnc46 := NB168_164.out
                          have hnb47 := NB164_163.out
                          have hnc47 := NB163_164.out
                          have hcz48_0 : wc.cell? ⟨gb164, 0, none⟩ = some (.int .i64 x165000_1) := (blk_cell BK164.out 0).trans rfl
                          have hcz48_1 : wc.cell? ⟨gb164, 1, none⟩ = some (.slice Ao21 x165001_1.length co21) := (blk_cell BK164.out 1).trans rfl
                          have hfz48_0 := blk_frozen BK164.out 0
                          have hfz48_1 := blk_frozen BK164.out 1
                          go_wp2_with (first | ((with_reducible refine gate_callee (f := 24) rfl ?_); refine goesL_ (some 53) rfl rfl Try.func24 (by kernel_rfl) rfl #[.agg #[.int .i64 x165000_1, .slice Ao21 x165001_1.length co21], .int .i64 (wrap64 (t169 - 2))] rfl (by (try simp only [List.map_toArray, List.map_cons, List.map_nil]); first | done | rfl | (simp only [List.length_drop, List.length_take]; rfl)) ?_; (with_reducible refine (virtual_Sleep.calls x165000_1 _ _ x165001_1 (wrap64 (t169 - 2)) t185 t186 t189 _ ?side1 ?side2 A45.out).mono ?_); (case side1 => repeat (first | exact (Kd.R_reads' HO_165001.out).2.2 | (with_reducible refine Kd.C_alloc ?_ _) | (with_reducible refine Kd.C_drewN ?_ _) | (with_reducible refine Kd.C_drew ?_))); (case side2 => exact (Kd.R_reads' HO_165001.out).2.1); rintro e w49 ⟨v187, rfl, ho0, hb⟩; refine ⟨_, rfl, ?_⟩; have n0_ := Aside0.mk (Kd.R_elder' (by (with_reducible repeat (first | apply Kd.R_alloc | apply Kd.R_drewN | apply Kd.R_drew)); exact HO_165001.out) (Kd.R_base ho0) hb); have n1_ := Aside0.mk (Kd.R_elder' (by (with_reducible repeat (first | apply Kd.R_alloc | apply Kd.R_drewN | apply Kd.R_drew)); exact HO_169001.out) (Kd.R_base ho0) hb); have n2_ := Aside0.mk (Kd.R_lower (Kd.R_new' (Kd.R_new' ho0 (Kd.R_lt (by (with_reducible repeat (first | apply Kd.R_alloc | apply Kd.R_drewN | apply Kd.R_drew)); exact HO_165001.out))) (Kd.R_lt (by (with_reducible repeat (first | apply Kd.R_alloc | apply Kd.R_drewN | apply Kd.R_drew)); exact HO_169001.out))) (below_size (by repeat (first | (with_reducible first | exact HB.out | apply below_alloc | apply pw_below_drewN | apply below_drew1 | refine below_set ?_ (IsS57.ge HI163.out) | refine below_set ?_ GE164.out | refine below_set ?_ GE168.out) | exact HB.out)))); have n3_ := Aside0.mk (blk_below (g := gb164) (o := .cells #[.int .i64 x165000_1, .slice Ao21 x165001_1.length co21] 29 (0, 0)) (by (with_reducible repeat (first | refine blk_drewN ?_ _ | refine blk_drew ?_ | refine blk_alloc ?_ _)); exact BK164.out) hb); have n4_ := Aside0.mk (blk_below (g := gb168) (o := .cells #[.int .i64 x165000_1, .slice Ao21 x165001_1.length co21] 29 (0, 0)) (by (with_reducible repeat (first | refine blk_drewN ?_ _ | refine blk_drew ?_ | refine blk_alloc ?_ _)); exact BK168.out) hb); have n5_ := Aside0.mk (IsS57.below (by repeat (first | (with_reducible first | exact HI163.out | apply IsS57.alloc | apply IsS57.drewN | apply IsS57.drew | apply IsS57.set_1 | refine IsS57.far ?_ NB163_164.out _ | refine IsS57.far ?_ NB163_168.out _) | exact HI163.out)) hb); have n6_ := Aside0.mk (below_step (by repeat (first | (with_reducible first | exact HB.out | apply below_alloc | apply pw_below_drewN | apply below_drew1 | refine below_set ?_ (IsS57.ge HI163.out) | refine below_set ?_ GE164.out | refine below_set ?_ GE168.out) | exact HB.out)) hb); clear HO_165001; clear HO_169001; clear BK164; clear BK168; clear HI163; clear HB; have HO_165001 := n0_; have HO_169001 := n1_; have HO188 := n2_; have BK164 := n3_; have BK168 := n4_; have HI163 := n5_; have HB := n6_; clear n0_ n1_ n2_ n3_ n4_ n5_ n6_; (try clear hb); (try clear hb2); (try clear hk); (try clear hi); (try clear ho0); have hnb50 := NB168_163.out; have hnc50 := NB163_168.out; have hcz51_0 : w49.cell? ⟨gb168, 0, none⟩ = some (.int .i64 x165000_1) := (blk_cell BK168.out 0).trans rfl; have hcz51_1 : w49.cell? ⟨gb168, 1, none⟩ = some (.slice Ao21 x165001_1.length co21) := (blk_cell BK168.out 1).trans rfl; have hfz51_0 := blk_frozen BK168.out 0; have hfz51_1 := blk_frozen BK168.out 1; obtain ⟨Ao52, co52, eo52⟩ := Kd.R_slice HO188.out; subst eo52))
                          go_meet
                          case rel => exact ⟨_, (t189), (t172), (t185), (t186), (.slice Ao52 t186.length co52), (by first | rfl | (simp; done) | (simp [*]; done)), H', ⟨by have := HK1.out; have := HJ6.out; have := HJ23.out; first | omega | exact Nat.le_refl _⟩, ⟨by (with_reducible repeat (first | apply Kd.R_alloc | apply Kd.R_drewN | apply Kd.R_drew)); exact Kd.R_mono (Kd.R_far (p := ⟨gb168, 1, none⟩) (Kd.R_far (p := ⟨gb168, 0, none⟩) (Kd.R_types HO_165001.out BK168.out (by decide)) (fun _ hk => hk.2) (.int .i64 t185)) (fun _ hk => hk.2) (.slice Ao52 t186.length co52)) (fun _ hk => by first | exact hk.1.2 | trivial)⟩, ⟨by (with_reducible repeat (first | apply Kd.R_alloc | apply Kd.R_drewN | apply Kd.R_drew)); exact Kd.R_mono (Kd.R_far (p := ⟨gb168, 1, none⟩) (Kd.R_far (p := ⟨gb168, 0, none⟩) (Kd.R_types HO188.out BK168.out (by decide)) (fun _ hk => hk.2) (.int .i64 t185)) (fun _ hk => hk.2) (.slice Ao52 t186.length co52)) (fun _ hk => by first | exact hk.1.1.2 | trivial)⟩, ⟨by (with_reducible repeat (first | refine blk_drewN ?_ _ | refine blk_drew ?_ | refine blk_alloc ?_ _)); refine blk_far ?_ NB164_168.out _; (with_reducible repeat (first | refine blk_drewN ?_ _ | refine blk_drew ?_ | refine blk_alloc ?_ _)); refine blk_far ?_ NB164_168.out _; (with_reducible repeat (first | refine blk_drewN ?_ _ | refine blk_drew ?_ | refine blk_alloc ?_ _)); exact BK164.out⟩, ⟨by (with_reducible repeat (first | refine blk_drewN ?_ _ | refine blk_drew ?_ | refine blk_alloc ?_ _)); refine blk_put (cs := #[.int .i64 t185, .slice Ao21 x165001_1.length co21]) ?_ 1 _ rfl; (with_reducible repeat (first | refine blk_drewN ?_ _ | refine blk_drew ?_ | refine blk_alloc ?_ _)); refine blk_put (cs := #[.int .i64 x165000_1, .slice Ao21 x165001_1.length co21]) ?_ 0 _ rfl; (with_reducible repeat (first | refine blk_drewN ?_ _ | refine blk_drew ?_ | refine blk_alloc ?_ _)); exact BK168.out⟩, ⟨by repeat (first | (with_reducible first | exact HI163.out | apply IsS57.alloc | apply IsS57.drewN | apply IsS57.drew | apply IsS57.set_1 | refine IsS57.far ?_ NB163_164.out _ | refine IsS57.far ?_ NB163_168.out _) | exact HI163.out)⟩, ⟨by repeat (first | (with_reducible first | exact HB.out | apply below_alloc | apply pw_below_drewN | apply below_drew1 | refine below_set ?_ (IsS57.ge HI163.out) | refine below_set ?_ GE164.out | refine below_set ?_ GE168.out) | exact HB.out)⟩⟩
                        · rw [if_neg c44] at H
                          have c44b0 : (t171 == 3) = false := beq_eq_false_iff_ne.mpr c44
                          have c44b1 : (t171 != 3) = true := bne_iff_ne.mpr c44
                          have HC53 := Aside0.mk H
                          clear H
                          go_upto_if 56 with (fail)
                          go_cut [56] (fun v56 wc => ∃ (kq : Nat) (x56_52 : Bool), v56 = .bool x56_52 ∧ Aside0 (groupcontrollaw15_VirtualKeeps.j3 kq x5_1 0 (wrap64 (t169 - 2)) t171 x56_52 t161 t172 x165000_1 x165001_1 x165000_1 x165001_1 = some r) ∧ Aside0 (kq ≤ kj23) ∧ Aside0 (Kd.R k36 36 wc w.heap.size (fun _ => True) (.slice Ao21 x165001_1.length co21) x165001_1) ∧ Aside0 (Kd.R k36 36 wc w.heap.size (fun _ => True) (.slice Ao21 x165001_1.length co21) x165001_1) ∧ Aside0 (wc.heap[gb164]? = some (.cells #[.int .i64 x165000_1, (.slice Ao21 x165001_1.length co21)] 29 (0, 0))) ∧ Aside0 (wc.heap[gb168]? = some (.cells #[.int .i64 x165000_1, (.slice Ao21 x165001_1.length co21)] 29 (0, 0))) ∧ Aside0 (IsS57 w wc g163 t161 t172) ∧ Aside0 (Below w.heap.size w wc))
                          case first =>
                            have H := HC53.out
                            clear HC53
                            by_cases c54 : t171 = 4
                            · rw [if_pos c54] at H
                              have c54b0 : (t171 == 4) = true := beq_iff_eq.mpr c54
                              have c54b1 : (t171 != 4) = false := bne_eq_false_iff_eq.mpr c54
                              clear c54
                              (first | rw [c54b0] | (simp only [i64_w, i32_w]; rw [c54b0]) | skip)
                              have H' := Aside0.mk H
                              clear H
                              go_wp2
                              go_meet
                              case rel => exact ⟨_, ((t171 == 4)), (by first | rfl | (simp; done) | (simp [*]; done)), H', ⟨by have := HK1.out; have := HJ6.out; have := HJ23.out; first | omega | exact Nat.le_refl _⟩, ⟨by (with_reducible repeat (first | apply Kd.R_alloc | apply Kd.R_drewN | apply Kd.R_drew)); exact HO_165001.out⟩, ⟨by (with_reducible repeat (first | apply Kd.R_alloc | apply Kd.R_drewN | apply Kd.R_drew)); exact HO_169001.out⟩, ⟨by (with_reducible repeat (first | refine blk_drewN ?_ _ | refine blk_drew ?_ | refine blk_alloc ?_ _)); exact BK164.out⟩, ⟨by (with_reducible repeat (first | refine blk_drewN ?_ _ | refine blk_drew ?_ | refine blk_alloc ?_ _)); exact BK168.out⟩, ⟨by repeat (first | (with_reducible first | exact HI163.out | apply IsS57.alloc | apply IsS57.drewN | apply IsS57.drew | apply IsS57.set_1 | refine IsS57.far ?_ NB163_164.out _ | refine IsS57.far ?_ NB163_168.out _) | exact HI163.out)⟩, ⟨by repeat (first | (with_reducible first | exact HB.out | apply below_alloc | apply pw_below_drewN | apply below_drew1 | refine below_set ?_ (IsS57.ge HI163.out) | refine below_set ?_ GE164.out | refine below_set ?_ GE168.out) | exact HB.out)⟩⟩
                            · rw [if_neg c54] at H
                              have c54b0 : (t171 == 4) = false := beq_eq_false_iff_ne.mpr c54
                              have c54b1 : (t171 != 4) = true := bne_iff_ne.mpr c54
                              (first | rw [c54b0] | (simp only [i64_w, i32_w]; rw [c54b0]) | skip)
                              have H' := Aside0.mk H
                              clear H
                              go_wp2
                              go_meet
                              case rel => exact ⟨_, ((t171 == 5)), (by first | rfl | (simp; done) | (simp [*]; done)), H', ⟨by have := HK1.out; have := HJ6.out; have := HJ23.out; first | omega | exact Nat.le_refl _⟩, ⟨by (with_reducible repeat (first | apply Kd.R_alloc | apply Kd.R_drewN | apply Kd.R_drew)); exact HO_165001.out⟩, ⟨by (with_reducible repeat (first | apply Kd.R_alloc | apply Kd.R_drewN | apply Kd.R_drew)); exact HO_169001.out⟩, ⟨by (with_reducible repeat (first | refine blk_drewN ?_ _ | refine blk_drew ?_ | refine blk_alloc ?_ _)); exact BK164.out⟩, ⟨by (with_reducible repeat (first | refine blk_drewN ?_ _ | refine blk_drew ?_ | refine blk_alloc ?_ _)); exact BK168.out⟩, ⟨by repeat (first | (with_reducible first | exact HI163.out | apply IsS57.alloc | apply IsS57.drewN | apply IsS57.drew | apply IsS57.set_1 | refine IsS57.far ?_ NB163_164.out _ | refine IsS57.far ?_ NB163_168.out _) | exact HI163.out)⟩, ⟨by repeat (first | (with_reducible first | exact HB.out | apply below_alloc | apply pw_below_drewN | apply below_drew1 | refine below_set ?_ (IsS57.ge HI163.out) | refine below_set ?_ GE164.out | refine below_set ?_ GE168.out) | exact HB.out)⟩⟩
                          case rest =>
                            clear HC53
                            try clear c1
                            try clear c2
                            try clear p2
                            try clear c3
                            try clear c4
                            try clear c5
                            try clear p6
                            try clear c8
                            try clear c8b0
                            try clear c10
                            try clear c11
                            try clear c12
                            try clear c14
                            try clear c15
                            try clear c18
                            try clear c19
                            try clear c24
                            try clear c25
                            try clear c25b0
                            try clear c25b1
                            try clear c26
                            try clear c31
                            try clear c35
                            try clear c35b0
                            try clear c35b1
                            try clear c37
                            try clear c38
                            try clear c41
                            try clear c44
                            try clear c44b0
                            try clear c44b1
                            try clear c46
                            try clear c47
                            try clear c50
                            try clear c54
                            try clear c54b0
                            try clear c54b1
                            try clear hcz16_0
                            try clear hcz16_1
                            try clear hcz20_0
                            try clear hcz20_1
                            try clear hcz39_0
                            try clear hcz39_1
                            try clear hcz42_0
                            try clear hcz42_1
                            try clear hcz48_0
                            try clear hcz48_1
                            try clear hcz51_0
                            try clear hcz51_1
                            try clear hfz16_0
                            try clear hfz16_1
                            try clear hfz20_0
                            try clear hfz20_1
                            try clear hfz39_0
                            try clear hfz39_1
                            try clear hfz42_0
                            try clear hfz42_1
                            try clear hfz48_0
                            try clear hfz48_1
                            try clear hfz51_0
                            try clear hfz51_1
                            try clear p2
                            try clear p6
                            obtain ⟨kq, x56_52, rfl, HA, HJ52, HO_165001, HO_169001, BK164, BK168, HI163, HB⟩ := hcut
                            cases kq with
                            | zero => exact absurd HA.out (by simp [groupcontrollaw15_VirtualKeeps.j3])
                            | succ kj52 =>
                              have H := HA.out
                              clear HA
                              simp only [groupcontrollaw15_VirtualKeeps.j3] at H
                              by_cases c55 : x56_52 = true
                              · subst c55
                                have H1 : ((virtual_Serve.f x165000_1 x165001_1 (wrap64 (t169 - 2))).bind fun bt190 => (groupcontrollaw15_VirtualKeeps.j4 kj52 x5_1 bt190.2.2 t161 t172 x165000_1 x165001_1 bt190.1 bt190.2.1)) = some r := by rw [if_pos rfl] at H; exact H
                                clear H
                                have H := H1
                                clear H1
                                replace H := Option.bind_eq_some_iff.mp H
                                obtain ⟨⟨t190, t191, t194⟩, A560, H⟩ := H
                                replace H : (groupcontrollaw15_VirtualKeeps.j4 kj52 x5_1 t194 t161 t172 x165000_1 x165001_1 t190 t191) = some r := H
                                have A56 := Aside0.mk A560
                                clear A560
                                have H' := Aside0.mk H
                                clear H
                                have hnb57 := NB164_168.out
                                have hnc57 := NB168_164.out
                                have hnb58 := NB164_163.out
                                have hnc58 := NB163_164.out
                                have hcz59_0 : wc.cell? ⟨gb164, 0, none⟩ = some (.int .i64 x165000_1) := (blk_cell BK164.out 0).trans rfl
                                have hcz59_1 : wc.cell? ⟨gb164, 1, none⟩ = some (.slice Ao21 x165001_1.length co21) := (blk_cell BK164.out 1).trans rfl
                                have hfz59_0 := blk_frozen BK164.out 0
                                have hfz59_1 := blk_frozen BK164.out 1
                                go_wp2_with (first | ((with_reducible refine gate_callee (f := 18) rfl ?_); refine goesL_ (some 62) rfl rfl Try.func18 (by kernel_rfl) rfl #[.agg #[.int .i64 x165000_1, .slice Ao21 x165001_1.length co21], .int .i64 (wrap64 (t169 - 2))] rfl (by (try simp only [List.map_toArray, List.map_cons, List.map_nil]); first | done | rfl | (simp only [List.length_drop, List.length_take]; rfl)) ?_; (with_reducible refine (virtual_Serve.calls x165000_1 _ _ x165001_1 (wrap64 (t169 - 2)) t190 t191 t194 _ ?side1 ?side2 A56.out).mono ?_); (case side1 => repeat (first | exact (Kd.R_reads' HO_165001.out).2.2 | (with_reducible refine Kd.C_alloc ?_ _) | (with_reducible refine Kd.C_drewN ?_ _) | (with_reducible refine Kd.C_drew ?_))); (case side2 => exact (Kd.R_reads' HO_165001.out).2.1); rintro e w60 ⟨v192, rfl, ho0, hb⟩; refine ⟨_, rfl, ?_⟩; have n0_ := Aside0.mk (Kd.R_elder' (by (with_reducible repeat (first | apply Kd.R_alloc | apply Kd.R_drewN | apply Kd.R_drew)); exact HO_165001.out) (Kd.R_base ho0) hb); have n1_ := Aside0.mk (Kd.R_elder' (by (with_reducible repeat (first | apply Kd.R_alloc | apply Kd.R_drewN | apply Kd.R_drew)); exact HO_169001.out) (Kd.R_base ho0) hb); have n2_ := Aside0.mk (Kd.R_lower (Kd.R_new' (Kd.R_new' ho0 (Kd.R_lt (by (with_reducible repeat (first | apply Kd.R_alloc | apply Kd.R_drewN | apply Kd.R_drew)); exact HO_165001.out))) (Kd.R_lt (by (with_reducible repeat (first | apply Kd.R_alloc | apply Kd.R_drewN | apply Kd.R_drew)); exact HO_169001.out))) (below_size (by repeat (first | (with_reducible first | exact HB.out | apply below_alloc | apply pw_below_drewN | apply below_drew1 | refine below_set ?_ (IsS57.ge HI163.out) | refine below_set ?_ GE164.out | refine below_set ?_ GE168.out) | exact HB.out)))); have n3_ := Aside0.mk (blk_below (g := gb164) (o := .cells #[.int .i64 x165000_1, .slice Ao21 x165001_1.length co21] 29 (0, 0)) (by (with_reducible repeat (first | refine blk_drewN ?_ _ | refine blk_drew ?_ | refine blk_alloc ?_ _)); exact BK164.out) hb); have n4_ := Aside0.mk (blk_below (g := gb168) (o := .cells #[.int .i64 x165000_1, .slice Ao21 x165001_1.length co21] 29 (0, 0)) (by (with_reducible repeat (first | refine blk_drewN ?_ _ | refine blk_drew ?_ | refine blk_alloc ?_ _)); exact BK168.out) hb); have n5_ := Aside0.mk (IsS57.below (by repeat (first | (with_reducible first | exact HI163.out | apply IsS57.alloc | apply IsS57.drewN | apply IsS57.drew | apply IsS57.set_1 | refine IsS57.far ?_ NB163_164.out _ | refine IsS57.far ?_ NB163_168.out _) | exact HI163.out)) hb); have n6_ := Aside0.mk (below_step (by repeat (first | (with_reducible first | exact HB.out | apply below_alloc | apply pw_below_drewN | apply below_drew1 | refine below_set ?_ (IsS57.ge HI163.out) | refine below_set ?_ GE164.out | refine below_set ?_ GE168.out) | exact HB.out)) hb); clear HO_165001; clear HO_169001; clear BK164; clear BK168; clear HI163; clear HB; have HO_165001 := n0_; have HO_169001 := n1_; have HO193 := n2_; have BK164 := n3_; have BK168 := n4_; have HI163 := n5_; have HB := n6_; clear n0_ n1_ n2_ n3_ n4_ n5_ n6_; (try clear hb); (try clear hb2); (try clear hk); (try clear hi); (try clear ho0); have hnb61 := NB168_163.out; have hnc61 := NB163_168.out; have hcz62_0 : w60.cell? ⟨gb168, 0, none⟩ = some (.int .i64 x165000_1) := (blk_cell BK168.out 0).trans rfl; have hcz62_1 : w60.cell? ⟨gb168, 1, none⟩ = some (.slice Ao21 x165001_1.length co21) := (blk_cell BK168.out 1).trans rfl; have hfz62_0 := blk_frozen BK168.out 0; have hfz62_1 := blk_frozen BK168.out 1; obtain ⟨Ao63, co63, eo63⟩ := Kd.R_slice HO193.out; subst eo63))
                                go_meet
                                case rel => exact ⟨_, (t194), (t172), (t190), (t191), (.slice Ao63 t191.length co63), (by first | rfl | (simp; done) | (simp [*]; done)), H', ⟨by have := HK1.out; have := HJ6.out; have := HJ23.out; have := HJ52.out; first | omega | exact Nat.le_refl _⟩, ⟨by (with_reducible repeat (first | apply Kd.R_alloc | apply Kd.R_drewN | apply Kd.R_drew)); exact Kd.R_mono (Kd.R_far (p := ⟨gb168, 1, none⟩) (Kd.R_far (p := ⟨gb168, 0, none⟩) (Kd.R_types HO_165001.out BK168.out (by decide)) (fun _ hk => hk.2) (.int .i64 t190)) (fun _ hk => hk.2) (.slice Ao63 t191.length co63)) (fun _ hk => by first | exact hk.1.2 | trivial)⟩, ⟨by (with_reducible repeat (first | apply Kd.R_alloc | apply Kd.R_drewN | apply Kd.R_drew)); exact Kd.R_mono (Kd.R_far (p := ⟨gb168, 1, none⟩) (Kd.R_far (p := ⟨gb168, 0, none⟩) (Kd.R_types HO193.out BK168.out (by decide)) (fun _ hk => hk.2) (.int .i64 t190)) (fun _ hk => hk.2) (.slice Ao63 t191.length co63)) (fun _ hk => by first | exact hk.1.1.2 | trivial)⟩, ⟨by (with_reducible repeat (first | refine blk_drewN ?_ _ | refine blk_drew ?_ | refine blk_alloc ?_ _)); refine blk_far ?_ NB164_168.out _; (with_reducible repeat (first | refine blk_drewN ?_ _ | refine blk_drew ?_ | refine blk_alloc ?_ _)); refine blk_far ?_ NB164_168.out _; (with_reducible repeat (first | refine blk_drewN ?_ _ | refine blk_drew ?_ | refine blk_alloc ?_ _)); exact BK164.out⟩, ⟨by (with_reducible repeat (first | refine blk_drewN ?_ _ | refine blk_drew ?_ | refine blk_alloc ?_ _)); refine blk_put (cs := #[.int .i64 t190, .slice Ao21 x165001_1.length co21]) ?_ 1 _ rfl; (with_reducible repeat (first | refine blk_drewN ?_ _ | refine blk_drew ?_ | refine blk_alloc ?_ _)); refine blk_put (cs := #[.int .i64 x165000_1, .slice Ao21 x165001_1.length co21]) ?_ 0 _ rfl; (with_reducible repeat (first | refine blk_drewN ?_ _ | refine blk_drew ?_ | refine blk_alloc ?_ _)); exact BK168.out⟩, ⟨by repeat (first | (with_reducible first | exact HI163.out | apply IsS57.alloc | apply IsS57.drewN | apply IsS57.drew | apply IsS57.set_1 | refine IsS57.far ?_ NB163_164.out _ | refine IsS57.far ?_ NB163_168.out _) | exact HI163.out)⟩, ⟨by repeat (first | (with_reducible first | exact HB.out | apply below_alloc | apply pw_below_drewN | apply below_drew1 | refine below_set ?_ (IsS57.ge HI163.out) | refine below_set ?_ GE164.out | refine below_set ?_ GE168.out) | exact HB.out)⟩⟩
                              · replace c55 := Bool.eq_false_iff.mpr c55
                                subst c55
                                have H1 : (if t171 = 6 then ((groupcontrolmade_Dice_Weight.f kj52 t161 t172).bind fun bt195 => ((virtual_Reweight.f x165000_1 x165001_1 (wrap64 (t169 - 2)) bt195.1).bind fun bt197 => (groupcontrollaw15_VirtualKeeps.j4 kj52 x5_1 bt197.2.2 t161 bt195.2 x165000_1 x165001_1 bt197.1 bt197.2.1))) else (if t171 = 7 then ((virtual_Drop.f x165000_1 x165001_1 (wrap64 (t169 - 2))).bind fun bt202 => (groupcontrollaw15_VirtualKeeps.j4 kj52 x5_1 bt202.2.2 t161 t172 x165000_1 x165001_1 bt202.1 bt202.2.1)) else (groupcontrollaw15_VirtualKeeps.j4 kj52 x5_1 0 t161 t172 x165000_1 x165001_1 x165000_1 x165001_1))) = some r := by rw [if_neg (show ¬ (false = true) by decide)] at H; exact H
                                clear H
                                have H := H1
                                clear H1
                                by_cases c64 : t171 = 6
                                · rw [if_pos c64] at H
                                  have c64b0 : (t171 == 6) = true := beq_iff_eq.mpr c64
                                  have c64b1 : (t171 != 6) = false := bne_eq_false_iff_eq.mpr c64
                                  clear c64
                                  replace H := Option.bind_eq_some_iff.mp H
                                  obtain ⟨⟨t195, t196⟩, A650, H⟩ := H
                                  replace H : ((virtual_Reweight.f x165000_1 x165001_1 (wrap64 (t169 - 2)) t195).bind fun bt197 => (groupcontrollaw15_VirtualKeeps.j4 kj52 x5_1 bt197.2.2 t161 t196 x165000_1 x165001_1 bt197.1 bt197.2.1)) = some r := H
                                  have A65 := Aside0.mk A650
                                  clear A650
                                  replace H := Option.bind_eq_some_iff.mp H
                                  obtain ⟨⟨t197, t198, t201⟩, A660, H⟩ := H
                                  replace H : (groupcontrollaw15_VirtualKeeps.j4 kj52 x5_1 t201 t161 t196 x165000_1 x165001_1 t197 t198) = some r := H
                                  have A66 := Aside0.mk A660
                                  clear A660
                                  have H' := Aside0.mk H
                                  clear H
                                  try go_wp2
                                  have n0_ := Aside0.mk (Kd.R_drew HO_165001.out)
                                  have n1_ := Aside0.mk (Kd.R_drew HO_169001.out)
                                  have n2_ := Aside0.mk (blk_drew BK164.out)
                                  have n3_ := Aside0.mk (blk_drew BK168.out)
                                  have n4_ := Aside0.mk (IsS57.drew HI163.out)
                                  have n5_ := Aside0.mk (below_drew1 HB.out)
                                  clear HO_165001
                                  clear HO_169001
                                  clear BK164
                                  clear BK168
                                  clear HI163
                                  clear HB
                                  have HO_165001 := n0_
                                  have HO_169001 := n1_
                                  have BK164 := n2_
                                  have BK168 := n3_
                                  have HI163 := n4_
                                  have HB := n5_
                                  clear n0_ n1_ n2_ n3_ n4_ n5_
                                  refine start_ (n := 10) (S := fun w' => w'.cell? ⟨gb164, 0, none⟩ = some (.int .i64 x165000_1) ∧ w'.cell? ⟨gb164, 1, none⟩ = some (.slice Ao21 x165001_1.length co21)) (ds := []) #[false, false, false, false, false, false, false, false, false, false] (by kernel_rfl) rfl rfl ⟨(blk_cell BK164.out 0).trans rfl, (blk_cell BK164.out 1).trans rfl⟩ (fun hHeld => ?_); refine with_tabW groupcontrollaw15_VirtualKeeps.tab22 groupcontrollaw15_VirtualKeeps.bits22 (fun HT_ HW_ => ?_)
                                  generalize wc.drew = w67 at HO_165001 HO_169001 BK164 BK168 HI163 HB hHeld ⊢
                                  refine pure_ (i := 1) (N := some 69) (v := ?_) (a' := ?_) #[false, true, false, false, false, false, false, false, false, false] rfl rfl (any_of HT_.out (by kernel_rfl)) (fun _ _ _ h => h) (Or.inl ⟨by rfl, ?_⟩) ?_ ?_
                                  rotate_left
                                  · intro w'
                                    go_simp
                                    with_reducible rfl
                                  rotate_left
                                  · simp only [Act.put, List.setIfInBounds_toArray, List.set_cons_zero, List.set_cons_succ, i64_w, i32_w]
                                    rfl
                                  refine pure_ (i := 2) (N := some 70) (v := ?_) (a' := ?_) #[false, true, true, false, false, false, false, false, false, false] rfl rfl (any_of HT_.out (by kernel_rfl)) (fun _ _ _ h => h) (Or.inl ⟨by rfl, ?_⟩) ?_ ?_
                                  rotate_left
                                  · intro w'
                                    go_simp
                                    with_reducible rfl
                                  rotate_left
                                  · simp only [Act.put, List.setIfInBounds_toArray, List.set_cons_zero, List.set_cons_succ, i64_w, i32_w]
                                    rfl
                                  refine take_ (i := 0) (N := some 68) (v := ?_) (a' := ?_) #[true, true, true, false, false, false, false, false, false, false] rfl rfl (take_ofW HT_.out HW_.out (by kernel_rfl)) (fun _ _ _ h => h) (Or.inl ⟨by rfl, ?_⟩) hHeld ?_ ?_
                                  rotate_left
                                  · rintro w' ⟨s0, s1⟩
                                    go_simp
                                    with_reducible rfl
                                  rotate_left
                                  · simp only [Act.put, List.setIfInBounds_toArray, List.set_cons_zero, List.set_cons_succ, i64_w, i32_w]
                                    rfl
                                  refine one_ (i := 3) (N := some 71) #[true, true, true, true, false, false, false, false, false, false] rfl rfl (one_of HT_.out (by kernel_rfl)) (by decide) (fun K hK => ?_)
                                  refine goes_ Try.func26 (by kernel_rfl) rfl #[.pointer (some ⟨g163, 0, none⟩)] (by rfl) rfl rfl (by (try simp only [List.map_toArray, List.map_cons, List.map_nil]); first | done | rfl | (simp only [List.length_drop, List.length_take]; rfl)) ?_
                                  with_reducible refine (groupcontrolmade_Dice_Weight.calls kj52 g163 t161 t172 t195 t196 w _ ?side1 ?side2 A65.out).mono ?_
                                  (case side1 => repeat (first | (with_reducible first | exact HI163.out | apply IsS57.alloc | apply IsS57.drewN | apply IsS57.drew | apply IsS57.set_1 | refine IsS57.far ?_ NB163_164.out _ | refine IsS57.far ?_ NB163_168.out _) | exact HI163.out))
                                  (case side2 => repeat (first | (with_reducible first | exact HB.out | apply below_alloc | apply pw_below_drewN | apply below_drew1 | refine below_set ?_ (IsS57.ge HI163.out) | refine below_set ?_ GE164.out | refine below_set ?_ GE168.out) | exact HB.out))
                                  rintro e w68 ⟨rfl, hi, hb, hk⟩
                                  refine ⟨_, rfl, ?_⟩
                                  have n0_ := Aside0.mk (Kd.R_mono (Kd.R_keep (IsS57.apart (show IsS57 w _ g163 t161 t172 from by repeat (first | (with_reducible first | exact HI163.out | apply IsS57.alloc | apply IsS57.drewN | apply IsS57.drew | apply IsS57.set_1 | refine IsS57.far ?_ NB163_164.out _ | refine IsS57.far ?_ NB163_168.out _) | exact HI163.out)) (by (with_reducible repeat (first | apply Kd.R_alloc | apply Kd.R_drewN | apply Kd.R_drew)); exact HO_165001.out) (by decide)) hk (fun _ h => h.2)) (fun _ h => h.1))
                                  have n1_ := Aside0.mk (Kd.R_mono (Kd.R_keep (IsS57.apart (show IsS57 w _ g163 t161 t172 from by repeat (first | (with_reducible first | exact HI163.out | apply IsS57.alloc | apply IsS57.drewN | apply IsS57.drew | apply IsS57.set_1 | refine IsS57.far ?_ NB163_164.out _ | refine IsS57.far ?_ NB163_168.out _) | exact HI163.out)) (by (with_reducible repeat (first | apply Kd.R_alloc | apply Kd.R_drewN | apply Kd.R_drew)); exact HO_169001.out) (by decide)) hk (fun _ h => h.2)) (fun _ h => h.1))
                                  have n2_ := Aside0.mk (KeepBut.blk hk (g' := gb164) (o := .cells #[.int .i64 x165000_1, .slice Ao21 x165001_1.length co21] 29 (0, 0)) (by (with_reducible repeat (first | refine blk_drewN ?_ _ | refine blk_drew ?_ | refine blk_alloc ?_ _)); exact BK164.out) NB164_163.out (by simp))
                                  have n3_ := Aside0.mk (KeepBut.blk hk (g' := gb168) (o := .cells #[.int .i64 x165000_1, .slice Ao21 x165001_1.length co21] 29 (0, 0)) (by (with_reducible repeat (first | refine blk_drewN ?_ _ | refine blk_drew ?_ | refine blk_alloc ?_ _)); exact BK168.out) NB168_163.out (by simp))
                                  have n4_ := Aside0.mk (hb)
                                  have n5_ := Aside0.mk (hi)
                                  clear HO_165001
                                  clear HO_169001
                                  clear BK164
                                  clear BK168
                                  clear HB
                                  clear HI163
                                  have HO_165001 := n0_
                                  have HO_169001 := n1_
                                  have BK164 := n2_
                                  have BK168 := n3_
                                  have HB := n4_
                                  have HI163 := n5_
                                  clear n0_ n1_ n2_ n3_ n4_ n5_
                                  (try clear hb)
                                  (try clear hb2)
                                  (try clear hk)
                                  (try clear hi)
                                  refine hK.out _ _ ⟨(blk_cell BK164.out 0).trans rfl, (blk_cell BK164.out 1).trans rfl⟩ (fun hHeld => ?_)
                                  clear hK K
                                  refine norm_ (a' := ?_) ?_ ?_
                                  rotate_left
                                  · show Act.put _ (some 71) _ = _
                                    simp only [Act.put, List.setIfInBounds_toArray, List.set_cons_zero, List.set_cons_succ, i64_w, i32_w]
                                    rfl
                                  refine one_ (i := 4) (N := some 72) #[true, true, true, true, true, false, false, false, false, false] rfl rfl (one_of HT_.out (by kernel_rfl)) (by decide) (fun K hK => ?_)
                                  refine goes_ Try.func25 (by kernel_rfl) rfl #[.agg #[.int .i64 x165000_1, .slice Ao21 x165001_1.length co21], .int .i64 (wrap64 (t169 - 2)), .int .i64 t195] (by rfl) rfl rfl (by (try simp only [List.map_toArray, List.map_cons, List.map_nil]); first | done | rfl | (simp only [List.length_drop, List.length_take]; rfl)) ?_
                                  with_reducible refine (virtual_Reweight.calls x165000_1 _ _ x165001_1 (wrap64 (t169 - 2)) t195 t197 t198 t201 _ ?side1 ?side2 A66.out).mono ?_
                                  (case side1 => repeat (first | exact (Kd.R_reads' HO_165001.out).2.2 | (with_reducible refine Kd.C_alloc ?_ _) | (with_reducible refine Kd.C_drewN ?_ _) | (with_reducible refine Kd.C_drew ?_)))
                                  (case side2 => exact (Kd.R_reads' HO_165001.out).2.1)
                                  rintro e w69 ⟨v199, rfl, ho0, hb⟩
                                  refine ⟨_, rfl, ?_⟩
                                  have n0_ := Aside0.mk (Kd.R_elder' (by (with_reducible repeat (first | apply Kd.R_alloc | apply Kd.R_drewN | apply Kd.R_drew)); exact HO_165001.out) (Kd.R_base ho0) hb)
                                  have n1_ := Aside0.mk (Kd.R_elder' (by (with_reducible repeat (first | apply Kd.R_alloc | apply Kd.R_drewN | apply Kd.R_drew)); exact HO_169001.out) (Kd.R_base ho0) hb)
                                  have n2_ := Aside0.mk (Kd.R_lower (Kd.R_new' (Kd.R_new' ho0 (Kd.R_lt (by (with_reducible repeat (first | apply Kd.R_alloc | apply Kd.R_drewN | apply Kd.R_drew)); exact HO_165001.out))) (Kd.R_lt (by (with_reducible repeat (first | apply Kd.R_alloc | apply Kd.R_drewN | apply Kd.R_drew)); exact HO_169001.out))) (below_size (by repeat (first | (with_reducible first | exact HB.out | apply below_alloc | apply pw_below_drewN | apply below_drew1 | refine below_set ?_ (IsS57.ge HI163.out) | refine below_set ?_ GE164.out | refine below_set ?_ GE168.out) | exact HB.out))))
                                  have n3_ := Aside0.mk (blk_below (g := gb164) (o := .cells #[.int .i64 x165000_1, .slice Ao21 x165001_1.length co21] 29 (0, 0)) (by (with_reducible repeat (first | refine blk_drewN ?_ _ | refine blk_drew ?_ | refine blk_alloc ?_ _)); exact BK164.out) hb)
                                  have n4_ := Aside0.mk (blk_below (g := gb168) (o := .cells #[.int .i64 x165000_1, .slice Ao21 x165001_1.length co21] 29 (0, 0)) (by (with_reducible repeat (first | refine blk_drewN ?_ _ | refine blk_drew ?_ | refine blk_alloc ?_ _)); exact BK168.out) hb)
                                  have n5_ := Aside0.mk (IsS57.below (by repeat (first | (with_reducible first | exact HI163.out | apply IsS57.alloc | apply IsS57.drewN | apply IsS57.drew | apply IsS57.set_1 | refine IsS57.far ?_ NB163_164.out _ | refine IsS57.far ?_ NB163_168.out _) | exact HI163.out)) hb)
                                  have n6_ := Aside0.mk (below_step (by repeat (first | (with_reducible first | exact HB.out | apply below_alloc | apply pw_below_drewN | apply below_drew1 | refine below_set ?_ (IsS57.ge HI163.out) | refine below_set ?_ GE164.out | refine below_set ?_ GE168.out) | exact HB.out)) hb)
                                  clear HO_165001
                                  clear HO_169001
                                  clear BK164
                                  clear BK168
                                  clear HI163
                                  clear HB
                                  have HO_165001 := n0_
                                  have HO_169001 := n1_
                                  have HO200 := n2_
                                  have BK164 := n3_
                                  have BK168 := n4_
                                  have HI163 := n5_
                                  have HB := n6_
                                  clear n0_ n1_ n2_ n3_ n4_ n5_ n6_
                                  (try clear hb)
                                  (try clear hb2)
                                  (try clear hk)
                                  (try clear hi)
                                  (try clear ho0)
                                  obtain ⟨Ao71, co71, eo71⟩ := Kd.R_slice HO200.out
                                  (first | subst eo71 | (injection eo71 with f1_ f2_ f3_; have f4_ := f1_.symm; have f5_ := f3_.symm; clear f1_ f2_ f3_; subst f4_; subst f5_))
                                  refine hK.out _ _ ⟨(blk_cell BK164.out 0).trans rfl, (blk_cell BK164.out 1).trans rfl⟩ (fun hHeld => ?_)
                                  clear hK K
                                  refine norm_ (a' := ?_) ?_ ?_
                                  rotate_left
                                  · show Act.put _ (some 72) _ = _
                                    simp only [Act.put, List.setIfInBounds_toArray, List.set_cons_zero, List.set_cons_succ, i64_w, i32_w]
                                    rfl
                                  refine pure_ (i := 5) (N := some 67) (v := ?_) (a' := ?_) #[true, true, true, true, true, true, false, false, false, false] rfl rfl (any_of HT_.out (by kernel_rfl)) (fun _ _ _ h => h) (Or.inl ⟨by rfl, ?_⟩) ?_ ?_
                                  rotate_left
                                  · intro w'
                                    go_simp
                                    with_reducible rfl
                                  rotate_left
                                  · simp only [Act.put, List.setIfInBounds_toArray, List.set_cons_zero, List.set_cons_succ, i64_w, i32_w]
                                    rfl
                                  refine pure_ (i := 6) (N := some 73) (v := ?_) (a' := ?_) #[true, true, true, true, true, true, true, false, false, false] rfl rfl (any_of HT_.out (by kernel_rfl)) (fun _ _ _ h => h) (Or.inl ⟨by rfl, ?_⟩) ?_ ?_
                                  rotate_left
                                  · intro w'
                                    go_simp
                                    with_reducible rfl
                                  rotate_left
                                  · simp only [Act.put, List.setIfInBounds_toArray, List.set_cons_zero, List.set_cons_succ, i64_w, i32_w]
                                    rfl
                                  refine pure_ (i := 7) (N := some 74) (v := ?_) (a' := ?_) #[true, true, true, true, true, true, true, true, false, false] rfl rfl (any_of HT_.out (by kernel_rfl)) (fun _ _ _ h => h) (Or.inl ⟨by rfl, ?_⟩) ?_ ?_
                                  rotate_left
                                  · intro w'
                                    go_simp
                                    with_reducible rfl
                                  rotate_left
                                  · simp only [Act.put, List.setIfInBounds_toArray, List.set_cons_zero, List.set_cons_succ, i64_w, i32_w]
                                    rfl
                                  refine one_ (i := 8) (N := none) #[true, true, true, true, true, true, true, true, true, false] rfl rfl (one_of HT_.out (by kernel_rfl)) (by decide) (fun K hK => ?_)
                                  have hs70 : w69.cell? ⟨gb168, 0, none⟩ = some (.int .i64 x165000_1) := (blk_cell BK168.out 0).trans rfl
                                  have hfs70 := blk_frozen BK168.out 0
                                  have hns70_0 := NB164_168.out
                                  have hms70_0 := NB168_164.out
                                  have hs72 : w69.cell? ⟨gb168, 1, none⟩ = some (.slice Ao21 x165001_1.length co21) := (blk_cell BK168.out 1).trans rfl
                                  have hfs72 := blk_frozen BK168.out 1
                                  have hns72_0 := NB164_168.out
                                  have hms72_0 := NB168_164.out
                                  refine skip_ (w1 := ?_) (by rfl) rfl ?_ ?_
                                  rotate_left
                                  · go_simp
                                    rfl
                                  refine hK.out _ _ ⟨((cell_far (p := ⟨gb168, _, none⟩) NB164_168.out _).trans (((cell_far (p := ⟨gb168, _, none⟩) NB164_168.out _).trans (hHeld.1)))), ((cell_far (p := ⟨gb168, _, none⟩) NB164_168.out _).trans (((cell_far (p := ⟨gb168, _, none⟩) NB164_168.out _).trans (hHeld.2))))⟩ (fun hHeld => ?_)
                                  clear hK K
                                  refine pure_ (i := 9) (N := some 7) (v := ?_) (a' := ?_) #[true, true, true, true, true, true, true, true, true, true] rfl rfl (any_of HT_.out (by kernel_rfl)) (fun _ _ _ h => h) (Or.inl ⟨by rfl, ?_⟩) ?_ ?_
                                  rotate_left
                                  · intro w'
                                    go_simp
                                    with_reducible rfl
                                  rotate_left
                                  · simp only [Act.put, List.setIfInBounds_toArray, List.set_cons_zero, List.set_cons_succ, i64_w, i32_w]
                                    rfl
                                  refine done_ (done_of HT_.out (by kernel_rfl)) ?_
                                  try go_wp2
                                  go_meet
                                  case rel => exact ⟨_, (t201), (t196), (t197), (t198), (.slice Ao71 t198.length co71), (by first | rfl | (simp; done) | (simp [*]; done)), H', ⟨by have := HK1.out; have := HJ6.out; have := HJ23.out; have := HJ52.out; first | omega | exact Nat.le_refl _⟩, ⟨by (with_reducible repeat (first | apply Kd.R_alloc | apply Kd.R_drewN | apply Kd.R_drew)); exact Kd.R_mono (Kd.R_far (p := ⟨gb168, 1, none⟩) (Kd.R_far (p := ⟨gb168, 0, none⟩) (Kd.R_types HO_165001.out BK168.out (by decide)) (fun _ hk => hk.2) (.int .i64 t197)) (fun _ hk => hk.2) (.slice Ao71 t198.length co71)) (fun _ hk => by first | exact hk.1.2 | trivial)⟩, ⟨by (with_reducible repeat (first | apply Kd.R_alloc | apply Kd.R_drewN | apply Kd.R_drew)); exact Kd.R_mono (Kd.R_far (p := ⟨gb168, 1, none⟩) (Kd.R_far (p := ⟨gb168, 0, none⟩) (Kd.R_types HO200.out BK168.out (by decide)) (fun _ hk => hk.2) (.int .i64 t197)) (fun _ hk => hk.2) (.slice Ao71 t198.length co71)) (fun _ hk => by first | exact hk.1.1.2 | trivial)⟩, ⟨by (with_reducible repeat (first | refine blk_drewN ?_ _ | refine blk_drew ?_ | refine blk_alloc ?_ _)); refine blk_far ?_ NB164_168.out _; (with_reducible repeat (first | refine blk_drewN ?_ _ | refine blk_drew ?_ | refine blk_alloc ?_ _)); refine blk_far ?_ NB164_168.out _; (with_reducible repeat (first | refine blk_drewN ?_ _ | refine blk_drew ?_ | refine blk_alloc ?_ _)); exact BK164.out⟩, ⟨by (with_reducible repeat (first | refine blk_drewN ?_ _ | refine blk_drew ?_ | refine blk_alloc ?_ _)); refine blk_put (cs := #[.int .i64 t197, .slice Ao21 x165001_1.length co21]) ?_ 1 _ rfl; (with_reducible repeat (first | refine blk_drewN ?_ _ | refine blk_drew ?_ | refine blk_alloc ?_ _)); refine blk_put (cs := #[.int .i64 x165000_1, .slice Ao21 x165001_1.length co21]) ?_ 0 _ rfl; (with_reducible repeat (first | refine blk_drewN ?_ _ | refine blk_drew ?_ | refine blk_alloc ?_ _)); exact BK168.out⟩, ⟨by repeat (first | (with_reducible first | exact HI163.out | apply IsS57.alloc | apply IsS57.drewN | apply IsS57.drew | apply IsS57.set_1 | refine IsS57.far ?_ NB163_164.out _ | refine IsS57.far ?_ NB163_168.out _) | exact HI163.out)⟩, ⟨by repeat (first | (with_reducible first | exact HB.out | apply below_alloc | apply pw_below_drewN | apply below_drew1 | refine below_set ?_ (IsS57.ge HI163.out) | refine below_set ?_ GE164.out | refine below_set ?_ GE168.out) | exact HB.out)⟩⟩
                                · rw [if_neg c64] at H
                                  have c64b0 : (t171 == 6) = false := beq_eq_false_iff_ne.mpr c64
                                  have c64b1 : (t171 != 6) = true := bne_iff_ne.mpr c64
                                  by_cases c73 : t171 = 7
                                  · rw [if_pos c73] at H
                                    have c73b0 : (t171 == 7) = true := beq_iff_eq.mpr c73
                                    have c73b1 : (t171 != 7) = false := bne_eq_false_iff_eq.mpr c73
                                    clear c73
                                    replace H := Option.bind_eq_some_iff.mp H
                                    obtain ⟨⟨t202, t203, t206⟩, A740, H⟩ := H
                                    replace H : (groupcontrollaw15_VirtualKeeps.j4 kj52 x5_1 t206 t161 t172 x165000_1 x165001_1 t202 t203) = some r := H
                                    have A74 := Aside0.mk A740
                                    clear A740
                                    have H' := Aside0.mk H
                                    clear H
                                    have hnb75 := NB164_168.out
                                    have hnc75 := NB168_164.out
                                    have hnb76 := NB164_163.out
                                    have hnc76 := NB163_164.out
                                    have hcz77_0 : wc.cell? ⟨gb164, 0, none⟩ = some (.int .i64 x165000_1) := (blk_cell BK164.out 0).trans rfl
                                    have hcz77_1 : wc.cell? ⟨gb164, 1, none⟩ = some (.slice Ao21 x165001_1.length co21) := (blk_cell BK164.out 1).trans rfl
                                    have hfz77_0 := blk_frozen BK164.out 0
                                    have hfz77_1 := blk_frozen BK164.out 1
                                    go_wp2_with (first | ((with_reducible refine gate_callee (f := 32) rfl ?_); refine goesL_ (some 80) rfl rfl Try.func32 (by kernel_rfl) rfl #[.agg #[.int .i64 x165000_1, .slice Ao21 x165001_1.length co21], .int .i64 (wrap64 (t169 - 2))] rfl (by (try simp only [List.map_toArray, List.map_cons, List.map_nil]); first | done | rfl | (simp only [List.length_drop, List.length_take]; rfl)) ?_; (with_reducible refine (virtual_Drop.calls x165000_1 _ _ x165001_1 (wrap64 (t169 - 2)) t202 t203 t206 _ ?side1 ?side2 A74.out).mono ?_); (case side1 => repeat (first | exact (Kd.R_reads' HO_165001.out).2.2 | (with_reducible refine Kd.C_alloc ?_ _) | (with_reducible refine Kd.C_drewN ?_ _) | (with_reducible refine Kd.C_drew ?_))); (case side2 => exact (Kd.R_reads' HO_165001.out).2.1); rintro e w78 ⟨v204, rfl, ho0, hb⟩; refine ⟨_, rfl, ?_⟩; have n0_ := Aside0.mk (Kd.R_elder' (by (with_reducible repeat (first | apply Kd.R_alloc | apply Kd.R_drewN | apply Kd.R_drew)); exact HO_165001.out) (Kd.R_base ho0) hb); have n1_ := Aside0.mk (Kd.R_elder' (by (with_reducible repeat (first | apply Kd.R_alloc | apply Kd.R_drewN | apply Kd.R_drew)); exact HO_169001.out) (Kd.R_base ho0) hb); have n2_ := Aside0.mk (Kd.R_lower (Kd.R_new' (Kd.R_new' ho0 (Kd.R_lt (by (with_reducible repeat (first | apply Kd.R_alloc | apply Kd.R_drewN | apply Kd.R_drew)); exact HO_165001.out))) (Kd.R_lt (by (with_reducible repeat (first | apply Kd.R_alloc | apply Kd.R_drewN | apply Kd.R_drew)); exact HO_169001.out))) (below_size (by repeat (first | (with_reducible first | exact HB.out | apply below_alloc | apply pw_below_drewN | apply below_drew1 | refine below_set ?_ (IsS57.ge HI163.out) | refine below_set ?_ GE164.out | refine below_set ?_ GE168.out) | exact HB.out)))); have n3_ := Aside0.mk (blk_below (g := gb164) (o := .cells #[.int .i64 x165000_1, .slice Ao21 x165001_1.length co21] 29 (0, 0)) (by (with_reducible repeat (first | refine blk_drewN ?_ _ | refine blk_drew ?_ | refine blk_alloc ?_ _)); exact BK164.out) hb); have n4_ := Aside0.mk (blk_below (g := gb168) (o := .cells #[.int .i64 x165000_1, .slice Ao21 x165001_1.length co21] 29 (0, 0)) (by (with_reducible repeat (first | refine blk_drewN ?_ _ | refine blk_drew ?_ | refine blk_alloc ?_ _)); exact BK168.out) hb); have n5_ := Aside0.mk (IsS57.below (by repeat (first | (with_reducible first | exact HI163.out | apply IsS57.alloc | apply IsS57.drewN | apply IsS57.drew | apply IsS57.set_1 | refine IsS57.far ?_ NB163_164.out _ | refine IsS57.far ?_ NB163_168.out _) | exact HI163.out)) hb); have n6_ := Aside0.mk (below_step (by repeat (first | (with_reducible first | exact HB.out | apply below_alloc | apply pw_below_drewN | apply below_drew1 | refine below_set ?_ (IsS57.ge HI163.out) | refine below_set ?_ GE164.out | refine below_set ?_ GE168.out) | exact HB.out)) hb); clear HO_165001; clear HO_169001; clear BK164; clear BK168; clear HI163; clear HB; have HO_165001 := n0_; have HO_169001 := n1_; have HO205 := n2_; have BK164 := n3_; have BK168 := n4_; have HI163 := n5_; have HB := n6_; clear n0_ n1_ n2_ n3_ n4_ n5_ n6_; (try clear hb); (try clear hb2); (try clear hk); (try clear hi); (try clear ho0); have hnb79 := NB168_163.out; have hnc79 := NB163_168.out; have hcz80_0 : w78.cell? ⟨gb168, 0, none⟩ = some (.int .i64 x165000_1) := (blk_cell BK168.out 0).trans rfl; have hcz80_1 : w78.cell? ⟨gb168, 1, none⟩ = some (.slice Ao21 x165001_1.length co21) := (blk_cell BK168.out 1).trans rfl; have hfz80_0 := blk_frozen BK168.out 0; have hfz80_1 := blk_frozen BK168.out 1; obtain ⟨Ao81, co81, eo81⟩ := Kd.R_slice HO205.out; subst eo81))
                                    go_meet
                                    case rel => exact ⟨_, (t206), (t172), (t202), (t203), (.slice Ao81 t203.length co81), (by first | rfl | (simp; done) | (simp [*]; done)), H', ⟨by have := HK1.out; have := HJ6.out; have := HJ23.out; have := HJ52.out; first | omega | exact Nat.le_refl _⟩, ⟨by (with_reducible repeat (first | apply Kd.R_alloc | apply Kd.R_drewN | apply Kd.R_drew)); exact Kd.R_mono (Kd.R_far (p := ⟨gb168, 1, none⟩) (Kd.R_far (p := ⟨gb168, 0, none⟩) (Kd.R_types HO_165001.out BK168.out (by decide)) (fun _ hk => hk.2) (.int .i64 t202)) (fun _ hk => hk.2) (.slice Ao81 t203.length co81)) (fun _ hk => by first | exact hk.1.2 | trivial)⟩, ⟨by (with_reducible repeat (first | apply Kd.R_alloc | apply Kd.R_drewN | apply Kd.R_drew)); exact Kd.R_mono (Kd.R_far (p := ⟨gb168, 1, none⟩) (Kd.R_far (p := ⟨gb168, 0, none⟩) (Kd.R_types HO205.out BK168.out (by decide)) (fun _ hk => hk.2) (.int .i64 t202)) (fun _ hk => hk.2) (.slice Ao81 t203.length co81)) (fun _ hk => by first | exact hk.1.1.2 | trivial)⟩, ⟨by (with_reducible repeat (first | refine blk_drewN ?_ _ | refine blk_drew ?_ | refine blk_alloc ?_ _)); refine blk_far ?_ NB164_168.out _; (with_reducible repeat (first | refine blk_drewN ?_ _ | refine blk_drew ?_ | refine blk_alloc ?_ _)); refine blk_far ?_ NB164_168.out _; (with_reducible repeat (first | refine blk_drewN ?_ _ | refine blk_drew ?_ | refine blk_alloc ?_ _)); exact BK164.out⟩, ⟨by (with_reducible repeat (first | refine blk_drewN ?_ _ | refine blk_drew ?_ | refine blk_alloc ?_ _)); refine blk_put (cs := #[.int .i64 t202, .slice Ao21 x165001_1.length co21]) ?_ 1 _ rfl; (with_reducible repeat (first | refine blk_drewN ?_ _ | refine blk_drew ?_ | refine blk_alloc ?_ _)); refine blk_put (cs := #[.int .i64 x165000_1, .slice Ao21 x165001_1.length co21]) ?_ 0 _ rfl; (with_reducible repeat (first | refine blk_drewN ?_ _ | refine blk_drew ?_ | refine blk_alloc ?_ _)); exact BK168.out⟩, ⟨by repeat (first | (with_reducible first | exact HI163.out | apply IsS57.alloc | apply IsS57.drewN | apply IsS57.drew | apply IsS57.set_1 | refine IsS57.far ?_ NB163_164.out _ | refine IsS57.far ?_ NB163_168.out _) | exact HI163.out)⟩, ⟨by repeat (first | (with_reducible first | exact HB.out | apply below_alloc | apply pw_below_drewN | apply below_drew1 | refine below_set ?_ (IsS57.ge HI163.out) | refine below_set ?_ GE164.out | refine below_set ?_ GE168.out) | exact HB.out)⟩⟩
                                  · rw [if_neg c73] at H
                                    have c73b0 : (t171 == 7) = false := beq_eq_false_iff_ne.mpr c73
                                    have c73b1 : (t171 != 7) = true := bne_iff_ne.mpr c73
                                    have H' := Aside0.mk H
                                    clear H
                                    go_wp2
                                    go_meet
                                    case rel => exact ⟨_, (0), (t172), (x165000_1), (x165001_1), (.slice Ao21 x165001_1.length co21), (by first | rfl | (simp; done) | (simp [*]; done)), H', ⟨by have := HK1.out; have := HJ6.out; have := HJ23.out; have := HJ52.out; first | omega | exact Nat.le_refl _⟩, ⟨by (with_reducible repeat (first | apply Kd.R_alloc | apply Kd.R_drewN | apply Kd.R_drew)); exact HO_165001.out⟩, ⟨by (with_reducible repeat (first | apply Kd.R_alloc | apply Kd.R_drewN | apply Kd.R_drew)); exact HO_169001.out⟩, ⟨by (with_reducible repeat (first | refine blk_drewN ?_ _ | refine blk_drew ?_ | refine blk_alloc ?_ _)); exact BK164.out⟩, ⟨by (with_reducible repeat (first | refine blk_drewN ?_ _ | refine blk_drew ?_ | refine blk_alloc ?_ _)); exact BK168.out⟩, ⟨by repeat (first | (with_reducible first | exact HI163.out | apply IsS57.alloc | apply IsS57.drewN | apply IsS57.drew | apply IsS57.set_1 | refine IsS57.far ?_ NB163_164.out _ | refine IsS57.far ?_ NB163_168.out _) | exact HI163.out)⟩, ⟨by repeat (first | (with_reducible first | exact HB.out | apply below_alloc | apply pw_below_drewN | apply below_drew1 | refine below_set ?_ (IsS57.ge HI163.out) | refine below_set ?_ GE164.out | refine below_set ?_ GE168.out) | exact HB.out)⟩⟩
              case rest =>
                clear HC14
                try clear c1
                try clear c2
                try clear p2
                try clear c3
                try clear c4
                try clear c5
                try clear c6
                try clear p6
                try clear c7
                try clear c8
                try clear c8b0
                try clear c10
                try clear c11
                try clear c12
                try clear c14
                try clear c15
                try clear c18
                try clear c19
                try clear c24
                try clear c25
                try clear c25b0
                try clear c25b1
                try clear c26
                try clear c31
                try clear c32
                try clear c35
                try clear c35b0
                try clear c35b1
                try clear c37
                try clear c38
                try clear c41
                try clear c44
                try clear c44b0
                try clear c44b1
                try clear c46
                try clear c47
                try clear c50
                try clear c54
                try clear c54b0
                try clear c54b1
                try clear c55
                try clear c57
                try clear c58
                try clear c61
                try clear c64
                try clear c64b0
                try clear c64b1
                try clear p64
                try clear c73
                try clear c73b0
                try clear c73b1
                try clear c75
                try clear c76
                try clear c79
                try clear hcz16_0
                try clear hcz16_1
                try clear hcz20_0
                try clear hcz20_1
                try clear hcz39_0
                try clear hcz39_1
                try clear hcz42_0
                try clear hcz42_1
                try clear hcz48_0
                try clear hcz48_1
                try clear hcz51_0
                try clear hcz51_1
                try clear hcz59_0
                try clear hcz59_1
                try clear hcz62_0
                try clear hcz62_1
                try clear hcz77_0
                try clear hcz77_1
                try clear hcz80_0
                try clear hcz80_1
                try clear hfz16_0
                try clear hfz16_1
                try clear hfz20_0
                try clear hfz20_1
                try clear hfz39_0
                try clear hfz39_1
                try clear hfz42_0
                try clear hfz42_1
                try clear hfz48_0
                try clear hfz48_1
                try clear hfz51_0
                try clear hfz51_1
                try clear hfz59_0
                try clear hfz59_1
                try clear hfz62_0
                try clear hfz62_1
                try clear hfz77_0
                try clear hfz77_1
                try clear hfz80_0
                try clear hfz80_1
                try clear p2
                try clear p6
                obtain ⟨kq, x7_13, x164001_13, x169000_13, x169001_13, u169001, rfl, HA, HJ13, HO_165001, HO_169001, BK164, BK168, HI163, HB⟩ := hcut
                cases kq with
                | zero => exact absurd HA.out (by simp [groupcontrollaw15_VirtualKeeps.j4])
                | succ kj13 =>
                  have H := HA.out
                  clear HA
                  simp only [groupcontrollaw15_VirtualKeeps.j4] at H
                  by_cases c82 : x7_13 = 0
                  · rw [if_pos c82] at H
                    have c82b0 : (x7_13 == 0) = true := beq_iff_eq.mpr c82
                    have c82b1 : (x7_13 != 0) = false := bne_eq_false_iff_eq.mpr c82
                    clear c82
                    by_cases c83 : x169000_13 < x165000_1
                    · rw [if_pos c83] at H
                      have c83b0 : decide (x169000_13 < x165000_1) = true := decide_eq_true c83
                      clear c83
                      obtain rfl := Option.some.inj H
                      have hnb84 := NB168_164.out
                      have hnc84 := NB164_168.out
                      have hnb85 := NB168_163.out
                      have hnc85 := NB163_168.out
                      have hcz86_0 : wc.cell? ⟨gb168, 0, none⟩ = some (.int .i64 x169000_13) := (blk_cell BK168.out 0).trans rfl
                      have hcz86_1 : wc.cell? ⟨gb168, 1, none⟩ = some (u169001) := (blk_cell BK168.out 1).trans rfl
                      have hfz86_0 := blk_frozen BK168.out 0
                      have hfz86_1 := blk_frozen BK168.out 1
                      have hnb87 := NB164_163.out
                      have hnc87 := NB163_164.out
                      have hcz88_0 : wc.cell? ⟨gb164, 0, none⟩ = some (.int .i64 x165000_1) := (blk_cell BK164.out 0).trans rfl
                      have hcz88_1 : wc.cell? ⟨gb164, 1, none⟩ = some (.slice Ao21 x165001_1.length co21) := (blk_cell BK164.out 1).trans rfl
                      have hfz88_0 := blk_frozen BK164.out 0
                      have hfz88_1 := blk_frozen BK164.out 1
                      go_wp2
                      go_ret
                      exact ⟨by first | rfl | (simp [errW_none, errW_some] <;> rfl) | (simp [*, errW_none, errW_some] <;> rfl), by repeat (first | (with_reducible first | exact HB.out | apply below_alloc | apply pw_below_drewN | apply below_drew1 | refine below_set ?_ (IsS57.ge HI163.out) | refine below_set ?_ GE164.out | refine below_set ?_ GE168.out) | exact HB.out)⟩
                    · rw [if_neg c83] at H
                      have c83b0 : decide (x169000_13 < x165000_1) = false := decide_eq_false c83
                      clear c83
                      replace H := Option.bind_eq_some_iff.mp H
                      obtain ⟨t207, A890, H⟩ := H
                      replace H : (if t207 = true then (groupcontrollaw15_VirtualKeeps.l0 kj13 (wrap64 (x5_1 + 1)) t161 x164001_13 x169000_13 x169001_13) else (some false)) = some r := H
                      have A89 := Aside0.mk A890
                      clear A890
                      by_cases c90 : t207 = true
                      · subst c90
                        have H1 : (groupcontrollaw15_VirtualKeeps.l0 kj13 (wrap64 (x5_1 + 1)) t161 x164001_13 x169000_13 x169001_13) = some r := by rw [if_pos rfl] at H; exact H
                        clear H
                        have H := H1
                        clear H1
                        have H' := Aside0.mk H
                        clear H
                        have hnb91 := NB168_164.out
                        have hnc91 := NB164_168.out
                        have hnb92 := NB168_163.out
                        have hnc92 := NB163_168.out
                        have hcz93_0 : wc.cell? ⟨gb168, 0, none⟩ = some (.int .i64 x169000_13) := (blk_cell BK168.out 0).trans rfl
                        have hcz93_1 : wc.cell? ⟨gb168, 1, none⟩ = some (u169001) := (blk_cell BK168.out 1).trans rfl
                        have hfz93_0 := blk_frozen BK168.out 0
                        have hfz93_1 := blk_frozen BK168.out 1
                        have hnb94 := NB164_163.out
                        have hnc94 := NB163_164.out
                        have hcz95_0 : wc.cell? ⟨gb164, 0, none⟩ = some (.int .i64 x165000_1) := (blk_cell BK164.out 0).trans rfl
                        have hcz95_1 : wc.cell? ⟨gb164, 1, none⟩ = some (.slice Ao21 x165001_1.length co21) := (blk_cell BK164.out 1).trans rfl
                        have hfz95_0 := blk_frozen BK164.out 0
                        have hfz95_1 := blk_frozen BK164.out 1
                        obtain ⟨Ao96, co96, eo96⟩ := Kd.R_slice HO_169001.out
                        subst eo96
                        go_wp2_with (first | (go_at_call 29; (with_reducible refine (groupcontrolref15_Check.calls x169000_13 _ _ x169001_13 true _ ?side1 ?side2 A89.out).mono ?_); (case side1 => repeat (first | exact (Kd.R_reads' HO_169001.out).2.2 | (with_reducible refine Kd.C_alloc ?_ _) | (with_reducible refine Kd.C_drewN ?_ _) | (with_reducible refine Kd.C_drew ?_))); (case side2 => exact (Kd.R_reads' HO_169001.out).2.1); rintro e w97 ⟨rfl, hb⟩; have n0_ := Aside0.mk (Kd.R_below (by (with_reducible repeat (first | apply Kd.R_alloc | apply Kd.R_drewN | apply Kd.R_drew)); exact HO_165001.out) hb); have n1_ := Aside0.mk (Kd.R_below (by (with_reducible repeat (first | apply Kd.R_alloc | apply Kd.R_drewN | apply Kd.R_drew)); exact HO_169001.out) hb); have n2_ := Aside0.mk (blk_below (g := gb164) (o := .cells #[.int .i64 x165000_1, .slice Ao21 x165001_1.length co21] 29 (0, 0)) (by (with_reducible repeat (first | refine blk_drewN ?_ _ | refine blk_drew ?_ | refine blk_alloc ?_ _)); exact BK164.out) hb); have n3_ := Aside0.mk (blk_below (g := gb168) (o := .cells #[.int .i64 x169000_13, .slice Ao96 x169001_13.length co96] 29 (0, 0)) (by (with_reducible repeat (first | refine blk_drewN ?_ _ | refine blk_drew ?_ | refine blk_alloc ?_ _)); exact BK168.out) hb); have n4_ := Aside0.mk (IsS57.below (by repeat (first | (with_reducible first | exact HI163.out | apply IsS57.alloc | apply IsS57.drewN | apply IsS57.drew | apply IsS57.set_1 | refine IsS57.far ?_ NB163_164.out _ | refine IsS57.far ?_ NB163_168.out _) | exact HI163.out)) hb); have n5_ := Aside0.mk (below_step (by repeat (first | (with_reducible first | exact HB.out | apply below_alloc | apply pw_below_drewN | apply below_drew1 | refine below_set ?_ (IsS57.ge HI163.out) | refine below_set ?_ GE164.out | refine below_set ?_ GE168.out) | exact HB.out)) hb); clear HO_165001; clear HO_169001; clear BK164; clear BK168; clear HI163; clear HB; have HO_165001 := n0_; have HO_169001 := n1_; have BK164 := n2_; have BK168 := n3_; have HI163 := n4_; have HB := n5_; clear n0_ n1_ n2_ n3_ n4_ n5_; (try clear hb); (try clear hb2); (try clear hk); (try clear hi); have hcz98_0 : w97.cell? ⟨gb168, 0, none⟩ = some (.int .i64 x169000_13) := (blk_cell BK168.out 0).trans rfl; have hcz98_1 : w97.cell? ⟨gb168, 1, none⟩ = some (.slice Ao96 x169001_13.length co96) := (blk_cell BK168.out 1).trans rfl; have hfz98_0 := blk_frozen BK168.out 0; have hfz98_1 := blk_frozen BK168.out 1; have hcz99_0 : w97.cell? ⟨gb164, 0, none⟩ = some (.int .i64 x165000_1) := (blk_cell BK164.out 0).trans rfl; have hcz99_1 : w97.cell? ⟨gb164, 1, none⟩ = some (.slice Ao21 x165001_1.length co21) := (blk_cell BK164.out 1).trans rfl; have hfz99_0 := blk_frozen BK164.out 0; have hfz99_1 := blk_frozen BK164.out 1))
                        go_roundg kj13
                        case measure => have := HK1.out; have := HJ6.out; have := HJ13.out; omega
                        case rel => exact ⟨(wrap64 (x5_1 + 1)), (x164001_13), (x169000_13), (x169001_13), (.slice Ao96 x169001_13.length co96), (by first | rfl | (simp; done) | (simp [*]; done)), H', ⟨by have := HK1.out; have := HJ6.out; have := HJ13.out; omega⟩, ⟨by (with_reducible repeat (first | apply Kd.R_alloc | apply Kd.R_drewN | apply Kd.R_drew)); exact Kd.R_mono (Kd.R_far (p := ⟨gb164, 1, none⟩) (Kd.R_far (p := ⟨gb164, 0, none⟩) (Kd.R_types HO_169001.out BK164.out (by decide)) (fun _ hk => hk.2) (.int .i64 x169000_13)) (fun _ hk => hk.2) (.slice Ao96 x169001_13.length co96)) (fun _ hk => trivial)⟩, ⟨by (with_reducible repeat (first | refine blk_drewN ?_ _ | refine blk_drew ?_ | refine blk_alloc ?_ _)); refine blk_put (cs := #[.int .i64 x169000_13, .slice Ao21 x165001_1.length co21]) ?_ 1 _ rfl; (with_reducible repeat (first | refine blk_drewN ?_ _ | refine blk_drew ?_ | refine blk_alloc ?_ _)); refine blk_put (cs := #[.int .i64 x165000_1, .slice Ao21 x165001_1.length co21]) ?_ 0 _ rfl; (with_reducible repeat (first | refine blk_drewN ?_ _ | refine blk_drew ?_ | refine blk_alloc ?_ _)); exact BK164.out⟩, ⟨by repeat (first | (with_reducible first | exact HI163.out | apply IsS57.alloc | apply IsS57.drewN | apply IsS57.drew | apply IsS57.set_1 | refine IsS57.far ?_ NB163_164.out _ | refine IsS57.far ?_ NB163_168.out _) | exact HI163.out)⟩, ⟨by repeat (first | (with_reducible first | exact HB.out | apply below_alloc | apply pw_below_drewN | apply below_drew1 | refine below_set ?_ (IsS57.ge HI163.out) | refine below_set ?_ GE164.out | refine below_set ?_ GE168.out) | exact HB.out)⟩⟩
                      · replace c90 := Bool.eq_false_iff.mpr c90
                        subst c90
                        have H1 : (some false) = some r := by rw [if_neg (show ¬ (false = true) by decide)] at H; exact H
                        clear H
                        have H := H1
                        clear H1
                        obtain rfl := Option.some.inj H
                        have hnb100 := NB168_164.out
                        have hnc100 := NB164_168.out
                        have hnb101 := NB168_163.out
                        have hnc101 := NB163_168.out
                        have hcz102_0 : wc.cell? ⟨gb168, 0, none⟩ = some (.int .i64 x169000_13) := (blk_cell BK168.out 0).trans rfl
                        have hcz102_1 : wc.cell? ⟨gb168, 1, none⟩ = some (u169001) := (blk_cell BK168.out 1).trans rfl
                        have hfz102_0 := blk_frozen BK168.out 0
                        have hfz102_1 := blk_frozen BK168.out 1
                        have hnb103 := NB164_163.out
                        have hnc103 := NB163_164.out
                        have hcz104_0 : wc.cell? ⟨gb164, 0, none⟩ = some (.int .i64 x165000_1) := (blk_cell BK164.out 0).trans rfl
                        have hcz104_1 : wc.cell? ⟨gb164, 1, none⟩ = some (.slice Ao21 x165001_1.length co21) := (blk_cell BK164.out 1).trans rfl
                        have hfz104_0 := blk_frozen BK164.out 0
                        have hfz104_1 := blk_frozen BK164.out 1
                        obtain ⟨Ao105, co105, eo105⟩ := Kd.R_slice HO_169001.out
                        subst eo105
                        go_wp2_with (first | (go_at_call 29; (with_reducible refine (groupcontrolref15_Check.calls x169000_13 _ _ x169001_13 false _ ?side1 ?side2 A89.out).mono ?_); (case side1 => repeat (first | exact (Kd.R_reads' HO_169001.out).2.2 | (with_reducible refine Kd.C_alloc ?_ _) | (with_reducible refine Kd.C_drewN ?_ _) | (with_reducible refine Kd.C_drew ?_))); (case side2 => exact (Kd.R_reads' HO_169001.out).2.1); rintro e w106 ⟨rfl, hb⟩; have n0_ := Aside0.mk (Kd.R_below (by (with_reducible repeat (first | apply Kd.R_alloc | apply Kd.R_drewN | apply Kd.R_drew)); exact HO_165001.out) hb); have n1_ := Aside0.mk (Kd.R_below (by (with_reducible repeat (first | apply Kd.R_alloc | apply Kd.R_drewN | apply Kd.R_drew)); exact HO_169001.out) hb); have n2_ := Aside0.mk (blk_below (g := gb164) (o := .cells #[.int .i64 x165000_1, .slice Ao21 x165001_1.length co21] 29 (0, 0)) (by (with_reducible repeat (first | refine blk_drewN ?_ _ | refine blk_drew ?_ | refine blk_alloc ?_ _)); exact BK164.out) hb); have n3_ := Aside0.mk (blk_below (g := gb168) (o := .cells #[.int .i64 x169000_13, .slice Ao105 x169001_13.length co105] 29 (0, 0)) (by (with_reducible repeat (first | refine blk_drewN ?_ _ | refine blk_drew ?_ | refine blk_alloc ?_ _)); exact BK168.out) hb); have n4_ := Aside0.mk (IsS57.below (by repeat (first | (with_reducible first | exact HI163.out | apply IsS57.alloc | apply IsS57.drewN | apply IsS57.drew | apply IsS57.set_1 | refine IsS57.far ?_ NB163_164.out _ | refine IsS57.far ?_ NB163_168.out _) | exact HI163.out)) hb); have n5_ := Aside0.mk (below_step (by repeat (first | (with_reducible first | exact HB.out | apply below_alloc | apply pw_below_drewN | apply below_drew1 | refine below_set ?_ (IsS57.ge HI163.out) | refine below_set ?_ GE164.out | refine below_set ?_ GE168.out) | exact HB.out)) hb); clear HO_165001; clear HO_169001; clear BK164; clear BK168; clear HI163; clear HB; have HO_165001 := n0_; have HO_169001 := n1_; have BK164 := n2_; have BK168 := n3_; have HI163 := n4_; have HB := n5_; clear n0_ n1_ n2_ n3_ n4_ n5_; (try clear hb); (try clear hb2); (try clear hk); (try clear hi)))
                        go_ret
                        exact ⟨by first | rfl | (simp [errW_none, errW_some] <;> rfl) | (simp [*, errW_none, errW_some] <;> rfl), by repeat (first | (with_reducible first | exact HB.out | apply below_alloc | apply pw_below_drewN | apply below_drew1 | refine below_set ?_ (IsS57.ge HI163.out) | refine below_set ?_ GE164.out | refine below_set ?_ GE168.out) | exact HB.out)⟩
                  · rw [if_neg c82] at H
                    have c82b0 : (x7_13 == 0) = false := beq_eq_false_iff_ne.mpr c82
                    have c82b1 : (x7_13 != 0) = true := bne_iff_ne.mpr c82
                    have H' := Aside0.mk H
                    clear H
                    go_wp2
                    go_roundg kj13
                    case measure => have := HK1.out; have := HJ6.out; have := HJ13.out; omega
                    case rel => exact ⟨(wrap64 (x5_1 + 1)), (x164001_13), (x165000_1), (x165001_1), (.slice Ao21 x165001_1.length co21), (by first | rfl | (simp; done) | (simp [*]; done)), H', ⟨by have := HK1.out; have := HJ6.out; have := HJ13.out; omega⟩, ⟨by (with_reducible repeat (first | apply Kd.R_alloc | apply Kd.R_drewN | apply Kd.R_drew)); exact HO_165001.out⟩, ⟨by (with_reducible repeat (first | refine blk_drewN ?_ _ | refine blk_drew ?_ | refine blk_alloc ?_ _)); exact BK164.out⟩, ⟨by repeat (first | (with_reducible first | exact HI163.out | apply IsS57.alloc | apply IsS57.drewN | apply IsS57.drew | apply IsS57.set_1 | refine IsS57.far ?_ NB163_164.out _ | refine IsS57.far ?_ NB163_168.out _) | exact HI163.out)⟩, ⟨by repeat (first | (with_reducible first | exact HB.out | apply below_alloc | apply pw_below_drewN | apply below_drew1 | refine below_set ?_ (IsS57.ge HI163.out) | refine below_set ?_ GE164.out | refine below_set ?_ GE168.out) | exact HB.out)⟩⟩
            · replace c11 := Bool.eq_false_iff.mpr c11
              subst c11
              have H1 : ((groupcontrollaw15_sane.f kj6).bind fun t167 => (some t167)) = some r := by rw [if_neg (show ¬ (false = true) by decide)] at H; exact H
              clear H
              have H := H1
              clear H1
              replace H := Option.bind_eq_some_iff.mp H
              obtain ⟨t167, A1070, H⟩ := H
              replace H : (some t167) = some r := H
              have A107 := Aside0.mk A1070
              clear A1070
              obtain rfl := Option.some.inj H
              go_wp2_with (first | ((with_reducible refine gate_callee (f := 11) rfl ?_); refine goesL_ (some 96) rfl rfl Try.func11 (by kernel_rfl) rfl #[] rfl (by (try simp only [List.map_toArray, List.map_cons, List.map_nil]); first | done | rfl | (simp only [List.length_drop, List.length_take]; rfl)) ?_; (with_reducible refine (groupcontrollaw15_sane.calls kj6  t167 _ A107.out).mono ?_); rintro e w108 ⟨rfl, hb⟩; refine ⟨_, rfl, ?_⟩; have n0_ := Aside0.mk (Kd.R_below (by (with_reducible repeat (first | apply Kd.R_alloc | apply Kd.R_drewN | apply Kd.R_drew)); exact HO_165001.out) hb); have n1_ := Aside0.mk (blk_below (g := gb164) (o := .cells #[.int .i64 x165000_1, u165001] 29 (0, 0)) (by (with_reducible repeat (first | refine blk_drewN ?_ _ | refine blk_drew ?_ | refine blk_alloc ?_ _)); exact BK164.out) hb); have n2_ := Aside0.mk (IsS57.below (by repeat (first | (with_reducible first | exact HI163.out | apply IsS57.alloc | apply IsS57.drewN | apply IsS57.drew | apply IsS57.set_1 | refine IsS57.far ?_ NB163_164.out _) | exact HI163.out)) hb); have n3_ := Aside0.mk (below_step (by repeat (first | (with_reducible first | exact HB.out | apply below_alloc | apply pw_below_drewN | apply below_drew1 | refine below_set ?_ (IsS57.ge HI163.out) | refine below_set ?_ GE164.out) | exact HB.out)) hb); clear HO_165001; clear BK164; clear HI163; clear HB; have HO_165001 := n0_; have BK164 := n1_; have HI163 := n2_; have HB := n3_; clear n0_ n1_ n2_ n3_; (try clear hb); (try clear hb2); (try clear hk); (try clear hi)))
              go_ret
              exact ⟨by first | rfl | (simp [errW_none, errW_some] <;> rfl) | (simp [*, errW_none, errW_some] <;> rfl), by repeat (first | (with_reducible first | exact HB.out | apply below_alloc | apply pw_below_drewN | apply below_drew1 | refine below_set ?_ (IsS57.ge HI163.out) | refine below_set ?_ GE164.out) | exact HB.out)⟩
  · replace c3 := Bool.eq_false_iff.mpr c3
    subst c3
    have H1 : ((groupcontrollaw15_sane.f k).bind fun t160 => (some t160)) = some r := by rw [if_neg (show ¬ (false = true) by decide)] at H; exact H
    clear H
    have H := H1
    clear H1
    replace H := Option.bind_eq_some_iff.mp H
    obtain ⟨t160, A1090, H⟩ := H
    replace H : (some t160) = some r := H
    have A109 := Aside0.mk A1090
    clear A1090
    obtain rfl := Option.some.inj H
    go_enter Try.func8, Try.ntmps8
    go_wp2_with (first | ((with_reducible refine gate_callee (f := 10) rfl ?_); refine goesL_ (some 10) rfl rfl Try.func10 (by kernel_rfl) rfl #[.slice A0 l0.length c0] rfl (by (try simp only [List.map_toArray, List.map_cons, List.map_nil]); first | done | rfl | (simp only [List.length_drop, List.length_take]; rfl)) ?_; (with_reducible refine (groupcontrolmade_Light.calls _ _ l0 false _ ?side1 ?side2 A2.out).mono ?_); (case side1 => repeat (first | exact HR0.out | (with_reducible refine Kd.C_alloc ?_ _) | (with_reducible refine Kd.C_drewN ?_ _) | (with_reducible refine Kd.C_drew ?_))); (case side2 => exact HC0.out); rintro e w' ⟨rfl, ⟨nd, rfl⟩⟩; refine ⟨_, rfl, ?_⟩) | ((with_reducible refine gate_callee (f := 11) rfl ?_); refine goesL_ (some 12) rfl rfl Try.func11 (by kernel_rfl) rfl #[] rfl (by (try simp only [List.map_toArray, List.map_cons, List.map_nil]); first | done | rfl | (simp only [List.length_drop, List.length_take]; rfl)) ?_; (with_reducible refine (groupcontrollaw15_sane.calls k  t160 _ A109.out).mono ?_); rintro e w110 ⟨rfl, hb⟩; refine ⟨_, rfl, ?_⟩; have n0_ := Aside0.mk (below_step (by repeat (first | (with_reducible first | exact HB.out | apply below_alloc | apply pw_below_drewN | apply below_drew1) | exact HB.out)) hb); clear HB; have HB := n0_; clear n0_; (try clear hb); (try clear hb2); (try clear hk); (try clear hi)))
    go_ret
    exact ⟨by first | rfl | (simp [errW_none, errW_some] <;> rfl) | (simp [*, errW_none, errW_some] <;> rfl), by repeat (first | (with_reducible first | exact HB.out | apply below_alloc | apply pw_below_drewN | apply below_drew1) | exact HB.out)⟩

/-- THE ONE PURE STATEMENT of groupcontrollaw15_VirtualKeeps: yours. -/
def groupcontrollaw15_VirtualKeeps.Pure : Prop := ∀ (l0 : List Int), l0.length ≤ maxLen → l0.length * 8 ≤ 140737488351232 → (∀ x ∈ l0, (Lit.int .i64 x).wf = true) → ∃ k, groupcontrollaw15_VirtualKeeps.f k l0 = some true
theorem groupcontrollaw15_VirtualKeeps.walk (P : groupcontrollaw15_VirtualKeeps.Pure) (a0 : Option Addr) (len0 cap0 : Nat) (z0 : List Int) (w : World) (w0 : (a0 = none ∧ len0 = 0 ∧ cap0 = 0 ∧ z0 = []) ∨ ∃ x, a0 = some x ∧ len0 ≤ cap0 ∧ cap0 ≤ maxLen ∧ z0.length = cap0 ∧ (∀ i, i < z0.length → w.cell? (x.add i) = some (.int .i64 (z0.getD i 0))) ∧ ∀ n ∈ z0, (Lit.int .i64 n).wf = true) (y0 : len0 * 8 ≤ 140737488351232) :
    Calls Try.prog 8 #[.slice a0 len0 cap0] w fun e w' => e = .returned (.bool true) ∧ Below w.heap.size w w' := by
  obtain ⟨l0, rfl, hr0, hm0, hw0, hc0⟩ := ReadsInt.ofRowC w0
  obtain ⟨k, h⟩ := P l0 hm0 y0 hw0
  refine (groupcontrollaw15_VirtualKeeps.calls k _ _ l0 true w (Kd.C_of_reads (d := (0 : Int)) (h1 := fun _ => rfl) hr0) hc0 h).mono ?_
  rintro e w' ⟨rfl, hd⟩
  exact ⟨rfl, hd⟩

end Go.Proofs.Ytancnonigponaaa.PV
