/- Contracts of functions of the program and of its references, over the translation, for values that can be read as data: each call comes to what a Lean function says. Written by the kit's printer and a program of this session's, with hand-made contracts spliced in. -/
import Derived.Test.YtjpbdkfgblmioaaDoorPAx0
import Derived.Test.YtjpbdkfgblmioaaDoorPAx12
import Derived.Test.YtjpbdkfgblmioaaDoorPAx13
import Derived.Test.YtjpbdkfgblmioaaDoorPAx14
import Derived.Test.YtjpbdkfgblmioaaDoorPAx15
import Derived.Test.YtjpbdkfgblmioaaDoorPAx19
import Derived.Test.YtjpbdkfgblmioaaDoorPAx27
import Derived.Test.YtjpbdkfgblmioaaDoorPAx29
namespace Go.Proofs.YtjpbdkfgblmioaaDoor.PA
open Go.RowKit Go.Proofs.YtjpbdkfgblmioaaDoorW.PrintWords Go.Proofs.YtjpbdkfgblmioaaDoorW.PrintLast Go.Proofs.YtjpbdkfgblmioaaDoorW.PrintMore
attribute [local go_sem] max2_int min2_int max_two min_two max_three min_three max_four min_four   -- for this text's walks alone
set_option linter.unusedVariables false
set_option linter.unusedSimpArgs false

/-! ### groupcontrollaw1_NameLattice: function 6 -/
mutual
def groupcontrollaw1_NameLattice.j0 : Nat → ByteArray → ByteArray → ByteArray → Option (Bool)
  | 0, _, _, _ => none
  | k + 1, x4, x5, x6 => (name_Common.f x4 x5).bind fun bt270 => ((name_Common.f x5 x4).bind fun bt272 => (if bt270.2 = 0 then (groupcontrollaw1_NameLattice.j1 k x4 x5 x6 bt270.1 bt270.2 bt272.1 bt272.2 (bt272.2 != 0)) else (groupcontrollaw1_NameLattice.j1 k x4 x5 x6 bt270.1 bt270.2 bt272.1 bt272.2 true)))
def groupcontrollaw1_NameLattice.j1 : Nat → ByteArray → ByteArray → ByteArray → ByteArray → Int → ByteArray → Int → Bool → Option (Bool)
  | 0, _, _, _, _, _, _, _, _ => none
  | k + 1, x4, x5, x6, x7, x8, x9, x10, x46 => if x46 = true then (if ((x8 == 0) == (x10 == 0)) = true then ((groupcontrollaw1_sane.f).bind fun t274 => (some t274)) else (some false)) else (if x7.toList = x9.toList then ((name_Under.f x7 x4).bind fun t275 => (if t275 = true then ((name_Under.f x7 x5).bind fun t276 => (if t276 = true then ((name_Under.f x6 x4).bind fun t277 => (if t277 = true then ((name_Under.f x6 x5).bind fun t278 => (if t278 = true then ((name_Under.f x6 x7).bind fun t279 => (groupcontrollaw1_NameLattice.j2 k x4 x7 (!t279))) else (groupcontrollaw1_NameLattice.j2 k x4 x7 false))) else (groupcontrollaw1_NameLattice.j2 k x4 x7 false))) else (groupcontrollaw1_NameLattice.j2 k x4 x7 true))) else (groupcontrollaw1_NameLattice.j2 k x4 x7 true))) else (groupcontrollaw1_NameLattice.j2 k x4 x7 true))
def groupcontrollaw1_NameLattice.j2 : Nat → ByteArray → ByteArray → Bool → Option (Bool)
  | 0, _, _, _ => none
  | k + 1, x4, x7, x85 => if x85 = true then (some false) else ((name_Common.f x7 x4).bind fun bt280 => (if bt280.2 = 0 then (if bt280.1.toList = x7.toList then ((groupcontrollaw1_sane.f).bind fun t282 => (some t282)) else (some false)) else (some false)))
end
def groupcontrollaw1_NameLattice.f (k : Nat) (l0 : List Int) : Option (Bool) := (groupcontrolmade_Light.f l0).bind fun t257 => (if t257 = true then ((groupcontrolmade_Roll.f l0).bind fun bt259 => ((groupcontrolmade_Dice_Path.f k bt259.1 bt259.2).bind fun bt262 => ((groupcontrolmade_Dice_Path.f k bt259.1 bt262.2).bind fun bt264 => ((groupcontrolmade_Dice_Path.f k bt259.1 bt264.2).bind fun bt266 => ((groupcontrolmade_Dice_Bool.f k bt259.1 bt266.2 2).bind fun bt268 => (if bt268.1 = true then (if bt262.1.size + 2 ≤ 9223372036854775807 then (groupcontrollaw1_NameLattice.j0 k bt262.1 (bt262.1 ++ (⟨#[47, 98]⟩ : ByteArray)) bt266.1) else (none)) else (groupcontrollaw1_NameLattice.j0 k bt262.1 bt264.1 bt266.1))))))) else ((groupcontrollaw1_sane.f).bind fun t258 => (some t258)))
theorem groupcontrollaw1_NameLattice.mono_l : ∀ k, (∀ y0 y1 y2, LeO (groupcontrollaw1_NameLattice.j0 k y0 y1 y2) (groupcontrollaw1_NameLattice.j0 (k + 1) y0 y1 y2)) ∧ (∀ y0 y1 y2 y3 y4 y5 y6 y7, LeO (groupcontrollaw1_NameLattice.j1 k y0 y1 y2 y3 y4 y5 y6 y7) (groupcontrollaw1_NameLattice.j1 (k + 1) y0 y1 y2 y3 y4 y5 y6 y7)) ∧ (∀ y0 y1 y2, LeO (groupcontrollaw1_NameLattice.j2 k y0 y1 y2) (groupcontrollaw1_NameLattice.j2 (k + 1) y0 y1 y2))
  | 0 => ⟨fun _ _ _ r h => by simp [groupcontrollaw1_NameLattice.j0] at h, fun _ _ _ _ _ _ _ _ r h => by simp [groupcontrollaw1_NameLattice.j1] at h, fun _ _ _ r h => by simp [groupcontrollaw1_NameLattice.j2] at h⟩
  | k + 1 => by
    obtain ⟨ih0, ih1, ih2⟩ := groupcontrollaw1_NameLattice.mono_l k
    refine ⟨?_, ?_, ?_⟩
    · intro y0 y1 y2
      unfold groupcontrollaw1_NameLattice.j0
      repeat' first
      | (with_reducible exact ih0 _ _ _)
      | (with_reducible exact ih1 _ _ _ _ _ _ _ _)
      | (with_reducible exact ih2 _ _ _)
      | (with_reducible exact groupcontrolmade_Dice_Bool.mono _ _ _ _)
      | (with_reducible exact groupcontrolmade_Dice_Path.mono _ _ _)
      | (with_reducible exact LeO.refl _)
      | (with_reducible exact LeO.none _)
      | (with_reducible refine LeO.ite ?_ ?_)
      | (with_reducible refine LeO.bind ?_ (fun _ => ?_))
      | exact ih0 _ _ _
      | exact ih1 _ _ _ _ _ _ _ _
      | exact ih2 _ _ _
      | exact groupcontrolmade_Dice_Bool.mono _ _ _ _
      | exact groupcontrolmade_Dice_Path.mono _ _ _
      | exact LeO.none _
      | refine LeO.ite ?_ ?_
      | refine LeO.bind ?_ (fun _ => ?_)
    · intro y0 y1 y2 y3 y4 y5 y6 y7
      unfold groupcontrollaw1_NameLattice.j1
      repeat' first
      | (with_reducible exact ih0 _ _ _)
      | (with_reducible exact ih1 _ _ _ _ _ _ _ _)
      | (with_reducible exact ih2 _ _ _)
      | (with_reducible exact groupcontrolmade_Dice_Bool.mono _ _ _ _)
      | (with_reducible exact groupcontrolmade_Dice_Path.mono _ _ _)
      | (with_reducible exact LeO.refl _)
      | (with_reducible exact LeO.none _)
      | (with_reducible refine LeO.ite ?_ ?_)
      | (with_reducible refine LeO.bind ?_ (fun _ => ?_))
      | exact ih0 _ _ _
      | exact ih1 _ _ _ _ _ _ _ _
      | exact ih2 _ _ _
      | exact groupcontrolmade_Dice_Bool.mono _ _ _ _
      | exact groupcontrolmade_Dice_Path.mono _ _ _
      | exact LeO.none _
      | refine LeO.ite ?_ ?_
      | refine LeO.bind ?_ (fun _ => ?_)
    · intro y0 y1 y2
      unfold groupcontrollaw1_NameLattice.j2
      repeat' first
      | (with_reducible exact ih0 _ _ _)
      | (with_reducible exact ih1 _ _ _ _ _ _ _ _)
      | (with_reducible exact ih2 _ _ _)
      | (with_reducible exact groupcontrolmade_Dice_Bool.mono _ _ _ _)
      | (with_reducible exact groupcontrolmade_Dice_Path.mono _ _ _)
      | (with_reducible exact LeO.refl _)
      | (with_reducible exact LeO.none _)
      | (with_reducible refine LeO.ite ?_ ?_)
      | (with_reducible refine LeO.bind ?_ (fun _ => ?_))
      | exact ih0 _ _ _
      | exact ih1 _ _ _ _ _ _ _ _
      | exact ih2 _ _ _
      | exact groupcontrolmade_Dice_Bool.mono _ _ _ _
      | exact groupcontrolmade_Dice_Path.mono _ _ _
      | exact LeO.none _
      | refine LeO.ite ?_ ?_
      | refine LeO.bind ?_ (fun _ => ?_)
theorem groupcontrollaw1_NameLattice.mono : ∀ a0 k, LeO (groupcontrollaw1_NameLattice.f k a0) (groupcontrollaw1_NameLattice.f (k + 1) a0) := by
  intro a0 k
  obtain ⟨ih0, ih1, ih2⟩ := groupcontrollaw1_NameLattice.mono_l k
  unfold groupcontrollaw1_NameLattice.f
  repeat' first
      | (with_reducible exact ih0 _ _ _)
      | (with_reducible exact ih1 _ _ _ _ _ _ _ _)
      | (with_reducible exact ih2 _ _ _)
      | (with_reducible exact groupcontrolmade_Dice_Bool.mono _ _ _ _)
      | (with_reducible exact groupcontrolmade_Dice_Path.mono _ _ _)
      | (with_reducible exact LeO.refl _)
      | (with_reducible exact LeO.none _)
      | (with_reducible refine LeO.ite ?_ ?_)
      | (with_reducible refine LeO.bind ?_ (fun _ => ?_))
      | exact ih0 _ _ _
      | exact ih1 _ _ _ _ _ _ _ _
      | exact ih2 _ _ _
      | exact groupcontrolmade_Dice_Bool.mono _ _ _ _
      | exact groupcontrolmade_Dice_Path.mono _ _ _
      | exact LeO.none _
      | refine LeO.ite ?_ ?_
      | refine LeO.bind ?_ (fun _ => ?_)
set_option maxHeartbeats 8000000 in
set_option maxRecDepth 100000 in
theorem groupcontrollaw1_NameLattice.calls (k : Nat) (A0 : Option Addr) (c0 : Nat) (l0 : List Int) (r : Bool) (w : World) (hr0 : Kd.C (Kd.int .i64) w A0 l0.length l0) (hc0 : l0.length ≤ c0) (h : groupcontrollaw1_NameLattice.f k l0 = some r) :
    Calls Tryd.prog 6 #[.slice A0 l0.length c0] w fun e w' => e = .returned (.bool r) ∧ Below w.heap.size w w' := by
  have HR0 := Aside0.mk hr0
  have HC0 := Aside0.mk hc0
  clear hr0 hc0
  have HB := Aside0.mk (Below.refl w.heap.size w)
  have H : ((groupcontrolmade_Light.f l0).bind fun t257 => (if t257 = true then ((groupcontrolmade_Roll.f l0).bind fun bt259 => ((groupcontrolmade_Dice_Path.f k bt259.1 bt259.2).bind fun bt262 => ((groupcontrolmade_Dice_Path.f k bt259.1 bt262.2).bind fun bt264 => ((groupcontrolmade_Dice_Path.f k bt259.1 bt264.2).bind fun bt266 => ((groupcontrolmade_Dice_Bool.f k bt259.1 bt266.2 2).bind fun bt268 => (if bt268.1 = true then (if bt262.1.size + 2 ≤ 9223372036854775807 then (groupcontrollaw1_NameLattice.j0 k bt262.1 (bt262.1 ++ (⟨#[47, 98]⟩ : ByteArray)) bt266.1) else (none)) else (groupcontrollaw1_NameLattice.j0 k bt262.1 bt264.1 bt266.1))))))) else ((groupcontrollaw1_sane.f).bind fun t258 => (some t258)))) = some r := h
  clear h
  replace H := Option.bind_eq_some_iff.mp H
  obtain ⟨t257, A20, H⟩ := H
  replace H : (if t257 = true then ((groupcontrolmade_Roll.f l0).bind fun bt259 => ((groupcontrolmade_Dice_Path.f k bt259.1 bt259.2).bind fun bt262 => ((groupcontrolmade_Dice_Path.f k bt259.1 bt262.2).bind fun bt264 => ((groupcontrolmade_Dice_Path.f k bt259.1 bt264.2).bind fun bt266 => ((groupcontrolmade_Dice_Bool.f k bt259.1 bt266.2 2).bind fun bt268 => (if bt268.1 = true then (if bt262.1.size + 2 ≤ 9223372036854775807 then (groupcontrollaw1_NameLattice.j0 k bt262.1 (bt262.1 ++ (⟨#[47, 98]⟩ : ByteArray)) bt266.1) else (none)) else (groupcontrollaw1_NameLattice.j0 k bt262.1 bt264.1 bt266.1))))))) else ((groupcontrollaw1_sane.f).bind fun t258 => (some t258))) = some r := H
  have A2 := Aside0.mk A20
  clear A20
  by_cases c3 : t257 = true
  · subst c3
    have H1 : ((groupcontrolmade_Roll.f l0).bind fun bt259 => ((groupcontrolmade_Dice_Path.f k bt259.1 bt259.2).bind fun bt262 => ((groupcontrolmade_Dice_Path.f k bt259.1 bt262.2).bind fun bt264 => ((groupcontrolmade_Dice_Path.f k bt259.1 bt264.2).bind fun bt266 => ((groupcontrolmade_Dice_Bool.f k bt259.1 bt266.2 2).bind fun bt268 => (if bt268.1 = true then (if bt262.1.size + 2 ≤ 9223372036854775807 then (groupcontrollaw1_NameLattice.j0 k bt262.1 (bt262.1 ++ (⟨#[47, 98]⟩ : ByteArray)) bt266.1) else (none)) else (groupcontrollaw1_NameLattice.j0 k bt262.1 bt264.1 bt266.1))))))) = some r := by rw [if_pos rfl] at H; exact H
    clear H
    have H := H1
    clear H1
    replace H := Option.bind_eq_some_iff.mp H
    obtain ⟨⟨t259, t260⟩, A40, H⟩ := H
    replace H : ((groupcontrolmade_Dice_Path.f k t259 t260).bind fun bt262 => ((groupcontrolmade_Dice_Path.f k t259 bt262.2).bind fun bt264 => ((groupcontrolmade_Dice_Path.f k t259 bt264.2).bind fun bt266 => ((groupcontrolmade_Dice_Bool.f k t259 bt266.2 2).bind fun bt268 => (if bt268.1 = true then (if bt262.1.size + 2 ≤ 9223372036854775807 then (groupcontrollaw1_NameLattice.j0 k bt262.1 (bt262.1 ++ (⟨#[47, 98]⟩ : ByteArray)) bt266.1) else (none)) else (groupcontrollaw1_NameLattice.j0 k bt262.1 bt264.1 bt266.1)))))) = some r := H
    have A4 := Aside0.mk A40
    clear A40
    replace H := Option.bind_eq_some_iff.mp H
    obtain ⟨⟨t262, t263⟩, A50, H⟩ := H
    replace H : ((groupcontrolmade_Dice_Path.f k t259 t263).bind fun bt264 => ((groupcontrolmade_Dice_Path.f k t259 bt264.2).bind fun bt266 => ((groupcontrolmade_Dice_Bool.f k t259 bt266.2 2).bind fun bt268 => (if bt268.1 = true then (if t262.size + 2 ≤ 9223372036854775807 then (groupcontrollaw1_NameLattice.j0 k t262 (t262 ++ (⟨#[47, 98]⟩ : ByteArray)) bt266.1) else (none)) else (groupcontrollaw1_NameLattice.j0 k t262 bt264.1 bt266.1))))) = some r := H
    have A5 := Aside0.mk A50
    clear A50
    replace H := Option.bind_eq_some_iff.mp H
    obtain ⟨⟨t264, t265⟩, A60, H⟩ := H
    replace H : ((groupcontrolmade_Dice_Path.f k t259 t265).bind fun bt266 => ((groupcontrolmade_Dice_Bool.f k t259 bt266.2 2).bind fun bt268 => (if bt268.1 = true then (if t262.size + 2 ≤ 9223372036854775807 then (groupcontrollaw1_NameLattice.j0 k t262 (t262 ++ (⟨#[47, 98]⟩ : ByteArray)) bt266.1) else (none)) else (groupcontrollaw1_NameLattice.j0 k t262 t264 bt266.1)))) = some r := H
    have A6 := Aside0.mk A60
    clear A60
    replace H := Option.bind_eq_some_iff.mp H
    obtain ⟨⟨t266, t267⟩, A70, H⟩ := H
    replace H : ((groupcontrolmade_Dice_Bool.f k t259 t267 2).bind fun bt268 => (if bt268.1 = true then (if t262.size + 2 ≤ 9223372036854775807 then (groupcontrollaw1_NameLattice.j0 k t262 (t262 ++ (⟨#[47, 98]⟩ : ByteArray)) t266) else (none)) else (groupcontrollaw1_NameLattice.j0 k t262 t264 t266))) = some r := H
    have A7 := Aside0.mk A70
    clear A70
    replace H := Option.bind_eq_some_iff.mp H
    obtain ⟨⟨t268, t269⟩, A80, H⟩ := H
    replace H : (if t268 = true then (if t262.size + 2 ≤ 9223372036854775807 then (groupcontrollaw1_NameLattice.j0 k t262 (t262 ++ (⟨#[47, 98]⟩ : ByteArray)) t266) else (none)) else (groupcontrollaw1_NameLattice.j0 k t262 t264 t266)) = some r := H
    have A8 := Aside0.mk A80
    clear A80
    have HC9 := Aside0.mk H
    clear H
    go_enter Tryd.func6, Tryd.ntmps6
    go_upto_if 26 with (first | ((with_reducible refine gate_callee (f := 11) rfl ?_); refine goesL_ (some 14) rfl rfl Tryd.func11 (by kernel_rfl) rfl #[.slice A0 l0.length c0] rfl (by (try simp only [List.map_toArray, List.map_cons, List.map_nil]); first | done | rfl | (simp only [List.length_drop, List.length_take]; rfl)) ?_; (with_reducible refine (groupcontrolmade_Light.calls _ _ l0 true _ ?side1 ?side2 A2.out).mono ?_); (case side1 => repeat (first | exact HR0.out | (with_reducible refine Kd.C_alloc ?_ _) | (with_reducible refine Kd.C_drewN ?_ _) | (with_reducible refine Kd.C_drew ?_))); (case side2 => exact HC0.out); rintro e w' ⟨rfl, ⟨nd, rfl⟩⟩; refine ⟨_, rfl, ?_⟩) | ((with_reducible refine gate_callee (f := 12) rfl ?_); refine goesL_ (some 18) rfl rfl Tryd.func12 (by kernel_rfl) rfl #[.slice A0 l0.length c0] rfl (by (try simp only [List.map_toArray, List.map_cons, List.map_nil]); first | done | rfl | (simp only [List.length_drop, List.length_take]; rfl)) ?_; (with_reducible refine (groupcontrolmade_Roll.calls _ _ l0 t259 t260 w _ ?side1 ?side2 ?side3 A4.out).mono ?_); (case side1 => repeat (first | (with_reducible first | exact HB.out | apply below_alloc | apply pw_below_drewN | apply below_drew1) | exact HB.out)); (case side2 => exact HR0.out); (case side3 => exact HC0.out); rintro e w10 ⟨g261, rfl, hi, hb, hb2⟩; refine ⟨_, rfl, ?_⟩; have n0_ := Aside0.mk (hb); have n1_ := Aside0.mk (hi); clear HB; have HB := n0_; have HI261 := n1_; clear n0_ n1_; (try clear hb); (try clear hb2); (try clear hk); (try clear hi)) | ((with_reducible refine gate_callee (f := 13) rfl ?_); refine goesL_ (some 20) rfl rfl Tryd.func13 (by kernel_rfl) rfl #[.pointer (some ⟨g261, 0, none⟩)] rfl (by (try simp only [List.map_toArray, List.map_cons, List.map_nil]); first | done | rfl | (simp only [List.length_drop, List.length_take]; rfl)) ?_; (with_reducible refine (groupcontrolmade_Dice_Path.calls k g261 t259 t260 t262 t263 w _ ?side1 ?side2 A5.out).mono ?_); (case side1 => repeat (first | (with_reducible first | exact HI261.out | apply IsS52.alloc | apply IsS52.drewN | apply IsS52.drew | apply IsS52.set_1) | exact HI261.out)); (case side2 => repeat (first | (with_reducible first | exact HB.out | apply below_alloc | apply pw_below_drewN | apply below_drew1 | refine below_set ?_ (IsS52.ge HI261.out)) | exact HB.out)); rintro e w11 ⟨rfl, hi, hb, hk⟩; refine ⟨_, rfl, ?_⟩; have n0_ := Aside0.mk (hb); have n1_ := Aside0.mk (hi); clear HB; clear HI261; have HB := n0_; have HI261 := n1_; clear n0_ n1_; (try clear hb); (try clear hb2); (try clear hk); (try clear hi)) | ((with_reducible refine gate_callee (f := 13) rfl ?_); refine goesL_ (some 22) rfl rfl Tryd.func13 (by kernel_rfl) rfl #[.pointer (some ⟨g261, 0, none⟩)] rfl (by (try simp only [List.map_toArray, List.map_cons, List.map_nil]); first | done | rfl | (simp only [List.length_drop, List.length_take]; rfl)) ?_; (with_reducible refine (groupcontrolmade_Dice_Path.calls k g261 t259 t263 t264 t265 w _ ?side1 ?side2 A6.out).mono ?_); (case side1 => repeat (first | (with_reducible first | exact HI261.out | apply IsS52.alloc | apply IsS52.drewN | apply IsS52.drew | apply IsS52.set_1) | exact HI261.out)); (case side2 => repeat (first | (with_reducible first | exact HB.out | apply below_alloc | apply pw_below_drewN | apply below_drew1 | refine below_set ?_ (IsS52.ge HI261.out)) | exact HB.out)); rintro e w12 ⟨rfl, hi, hb, hk⟩; refine ⟨_, rfl, ?_⟩; have n0_ := Aside0.mk (hb); have n1_ := Aside0.mk (hi); clear HB; clear HI261; have HB := n0_; have HI261 := n1_; clear n0_ n1_; (try clear hb); (try clear hb2); (try clear hk); (try clear hi)) | ((with_reducible refine gate_callee (f := 13) rfl ?_); refine goesL_ (some 24) rfl rfl Tryd.func13 (by kernel_rfl) rfl #[.pointer (some ⟨g261, 0, none⟩)] rfl (by (try simp only [List.map_toArray, List.map_cons, List.map_nil]); first | done | rfl | (simp only [List.length_drop, List.length_take]; rfl)) ?_; (with_reducible refine (groupcontrolmade_Dice_Path.calls k g261 t259 t265 t266 t267 w _ ?side1 ?side2 A7.out).mono ?_); (case side1 => repeat (first | (with_reducible first | exact HI261.out | apply IsS52.alloc | apply IsS52.drewN | apply IsS52.drew | apply IsS52.set_1) | exact HI261.out)); (case side2 => repeat (first | (with_reducible first | exact HB.out | apply below_alloc | apply pw_below_drewN | apply below_drew1 | refine below_set ?_ (IsS52.ge HI261.out)) | exact HB.out)); rintro e w13 ⟨rfl, hi, hb, hk⟩; refine ⟨_, rfl, ?_⟩; have n0_ := Aside0.mk (hb); have n1_ := Aside0.mk (hi); clear HB; clear HI261; have HB := n0_; have HI261 := n1_; clear n0_ n1_; (try clear hb); (try clear hb2); (try clear hk); (try clear hi)) | ((with_reducible refine gate_callee (f := 21) rfl ?_); refine goesL_ (some 26) rfl rfl Tryd.func21 (by kernel_rfl) rfl #[.pointer (some ⟨g261, 0, none⟩), .int .i64 2] rfl (by (try simp only [List.map_toArray, List.map_cons, List.map_nil]); first | done | rfl | (simp only [List.length_drop, List.length_take]; rfl)) ?_; (with_reducible refine (groupcontrolmade_Dice_Bool.calls k g261 t259 t267 2 t268 t269 w _ ?side1 ?side2 A8.out).mono ?_); (case side1 => repeat (first | (with_reducible first | exact HI261.out | apply IsS52.alloc | apply IsS52.drewN | apply IsS52.drew | apply IsS52.set_1) | exact HI261.out)); (case side2 => repeat (first | (with_reducible first | exact HB.out | apply below_alloc | apply pw_below_drewN | apply below_drew1 | refine below_set ?_ (IsS52.ge HI261.out)) | exact HB.out)); rintro e w14 ⟨rfl, hi, hb, hk⟩; refine ⟨_, rfl, ?_⟩; have n0_ := Aside0.mk (hb); have n1_ := Aside0.mk (hi); clear HB; clear HI261; have HB := n0_; have HI261 := n1_; clear n0_ n1_; (try clear hb); (try clear hb2); (try clear hk); (try clear hi)))
    (try simp only [Act.put, List.setIfInBounds_toArray, List.set_cons_zero, List.set_cons_succ])
    go_cut [5] (fun v5 wc => ∃ (kq : Nat) (x5_8 : ByteArray), v5 = .string x5_8 ∧ Aside0 (groupcontrollaw1_NameLattice.j0 kq t262 x5_8 t266 = some r) ∧ Aside0 (kq ≤ k) ∧ Aside0 (Below w.heap.size w wc))
    case first =>
      have H := HC9.out
      clear HC9
      by_cases c15 : t268 = true
      · subst c15
        have H1 : (if t262.size + 2 ≤ 9223372036854775807 then (groupcontrollaw1_NameLattice.j0 k t262 (t262 ++ (⟨#[47, 98]⟩ : ByteArray)) t266) else (none)) = some r := by rw [if_pos rfl] at H; exact H
        clear H
        have H := H1
        clear H1
        by_cases c16 : t262.size + 2 ≤ 9223372036854775807
        · rw [if_pos c16] at H
          have c16b0 := eq_true c16
          have c16b1 : decide (t262.size + 2 ≤ 9223372036854775807) = true := decide_eq_true c16
          try have c16b2 : (9223372036854775807 < t262.size + 2) = False := eq_false (Nat.not_lt.2 c16)
          have H' := Aside0.mk H
          clear H
          go_wp2
          go_meet
          case rel => exact ⟨_, (t262 ++ (⟨#[47, 98]⟩ : ByteArray)), (by first | rfl | (simp; done) | (simp [*]; done)), H', ⟨by first | omega | exact Nat.le_refl _⟩, ⟨by repeat (first | (with_reducible first | exact HB.out | apply below_alloc | apply pw_below_drewN | apply below_drew1 | refine below_set ?_ (IsS52.ge HI261.out)) | exact HB.out)⟩⟩
        · rw [if_neg c16] at H
          exact absurd H (by simp)
      · replace c15 := Bool.eq_false_iff.mpr c15
        subst c15
        have H1 : (groupcontrollaw1_NameLattice.j0 k t262 t264 t266) = some r := by rw [if_neg (show ¬ (false = true) by decide)] at H; exact H
        clear H
        have H := H1
        clear H1
        have H' := Aside0.mk H
        clear H
        go_wp2
        go_meet
        case rel => exact ⟨_, (t264), (by first | rfl | (simp; done) | (simp [*]; done)), H', ⟨by first | omega | exact Nat.le_refl _⟩, ⟨by repeat (first | (with_reducible first | exact HB.out | apply below_alloc | apply pw_below_drewN | apply below_drew1 | refine below_set ?_ (IsS52.ge HI261.out)) | exact HB.out)⟩⟩
    case rest =>
      clear HC9
      try clear c1
      try clear c2
      try clear p2
      try clear c3
      try clear c6
      try clear c11
      try clear c12
      try clear c13
      try clear c15
      try clear c16
      try clear c16b0
      try clear c16b1
      try clear c16b2
      obtain ⟨kq, x5_8, rfl, HA, HJ8, HB⟩ := hcut
      cases kq with
      | zero => exact absurd HA.out (by simp [groupcontrollaw1_NameLattice.j0])
      | succ kj8 =>
        have H := HA.out
        clear HA
        simp only [groupcontrollaw1_NameLattice.j0] at H
        replace H := Option.bind_eq_some_iff.mp H
        obtain ⟨⟨t270, t271⟩, A170, H⟩ := H
        replace H : ((name_Common.f x5_8 t262).bind fun bt272 => (if t271 = 0 then (groupcontrollaw1_NameLattice.j1 kj8 t262 x5_8 t266 t270 t271 bt272.1 bt272.2 (bt272.2 != 0)) else (groupcontrollaw1_NameLattice.j1 kj8 t262 x5_8 t266 t270 t271 bt272.1 bt272.2 true))) = some r := H
        have A17 := Aside0.mk A170
        clear A170
        replace H := Option.bind_eq_some_iff.mp H
        obtain ⟨⟨t272, t273⟩, A180, H⟩ := H
        replace H : (if t271 = 0 then (groupcontrollaw1_NameLattice.j1 kj8 t262 x5_8 t266 t270 t271 t272 t273 (t273 != 0)) else (groupcontrollaw1_NameLattice.j1 kj8 t262 x5_8 t266 t270 t271 t272 t273 true)) = some r := H
        have A18 := Aside0.mk A180
        clear A180
        have HC19 := Aside0.mk H
        clear H
        go_upto_region 9 with (first | ((with_reducible refine gate_callee (f := 22) rfl ?_); refine goesL_ (some 32) rfl rfl Tryd.func22 (by kernel_rfl) rfl #[.string t262, .string x5_8] rfl (by (try simp only [List.map_toArray, List.map_cons, List.map_nil]); first | done | rfl | (simp only [List.length_drop, List.length_take]; rfl)) ?_; (with_reducible refine (name_Common.calls t262 x5_8 t270 t271 _ A17.out).mono ?_); rintro e w20 ⟨rfl, hb⟩; refine ⟨_, rfl, ?_⟩; have n0_ := Aside0.mk (below_step (by repeat (first | (with_reducible first | exact HB.out | apply below_alloc | apply pw_below_drewN | apply below_drew1) | exact HB.out)) hb); clear HB; have HB := n0_; clear n0_; (try clear hb); (try clear hb2); (try clear hk); (try clear hi)) | ((with_reducible refine gate_callee (f := 22) rfl ?_); refine goesL_ (some 38) rfl rfl Tryd.func22 (by kernel_rfl) rfl #[.string x5_8, .string t262] rfl (by (try simp only [List.map_toArray, List.map_cons, List.map_nil]); first | done | rfl | (simp only [List.length_drop, List.length_take]; rfl)) ?_; (with_reducible refine (name_Common.calls x5_8 t262 t272 t273 _ A18.out).mono ?_); rintro e w21 ⟨rfl, hb⟩; refine ⟨_, rfl, ?_⟩; have n0_ := Aside0.mk (below_step (by repeat (first | (with_reducible first | exact HB.out | apply below_alloc | apply pw_below_drewN | apply below_drew1) | exact HB.out)) hb); clear HB; have HB := n0_; clear n0_; (try clear hb); (try clear hb2); (try clear hk); (try clear hi)))
        (try simp only [Act.put, List.setIfInBounds_toArray, List.set_cons_zero, List.set_cons_succ])
        go_cut [46] (fun v46 wc => ∃ (kq : Nat) (x46_18 : Bool), v46 = .bool x46_18 ∧ Aside0 (groupcontrollaw1_NameLattice.j1 kq t262 x5_8 t266 t270 t271 t272 t273 x46_18 = some r) ∧ Aside0 (kq ≤ kj8) ∧ Aside0 (Below w.heap.size w wc))
        case first =>
          have H := HC19.out
          clear HC19
          by_cases c22 : t271 = 0
          · rw [if_pos c22] at H
            have c22b0 : (t271 == 0) = true := beq_iff_eq.mpr c22
            have c22b1 : (t271 != 0) = false := bne_eq_false_iff_eq.mpr c22
            clear c22
            (first | rw [c22b0] | (simp only [i64_w, i32_w]; rw [c22b0]) | skip)
            have H' := Aside0.mk H
            clear H
            go_wp2
            go_meet
            case rel => exact ⟨_, ((t273 != 0)), (by first | rfl | (simp; done) | (simp [*]; done)), H', ⟨by have := HJ8.out; first | omega | exact Nat.le_refl _⟩, ⟨by repeat (first | (with_reducible first | exact HB.out | apply below_alloc | apply pw_below_drewN | apply below_drew1) | exact HB.out)⟩⟩
          · rw [if_neg c22] at H
            have c22b0 : (t271 == 0) = false := beq_eq_false_iff_ne.mpr c22
            have c22b1 : (t271 != 0) = true := bne_iff_ne.mpr c22
            (first | rw [c22b0] | (simp only [i64_w, i32_w]; rw [c22b0]) | skip)
            have H' := Aside0.mk H
            clear H
            go_wp2
            go_meet
            case rel => exact ⟨_, (true), (by first | rfl | (simp; done) | (simp [*]; done)), H', ⟨by have := HJ8.out; first | omega | exact Nat.le_refl _⟩, ⟨by repeat (first | (with_reducible first | exact HB.out | apply below_alloc | apply pw_below_drewN | apply below_drew1) | exact HB.out)⟩⟩
        case rest =>
          clear HC19
          try clear c1
          try clear c2
          try clear p2
          try clear c3
          try clear c6
          try clear c11
          try clear c12
          try clear c13
          try clear c15
          try clear c16
          try clear c16b0
          try clear c16b1
          try clear c16b2
          try clear c21
          try clear c22
          try clear c22b0
          try clear c22b1
          try clear p2
          obtain ⟨kq, x46_18, rfl, HA, HJ18, HB⟩ := hcut
          cases kq with
          | zero => exact absurd HA.out (by simp [groupcontrollaw1_NameLattice.j1])
          | succ kj18 =>
            have H := HA.out
            clear HA
            simp only [groupcontrollaw1_NameLattice.j1] at H
            by_cases c23 : x46_18 = true
            · subst c23
              have H1 : (if ((t271 == 0) == (t273 == 0)) = true then ((groupcontrollaw1_sane.f).bind fun t274 => (some t274)) else (some false)) = some r := by rw [if_pos rfl] at H; exact H
              clear H
              have H := H1
              clear H1
              by_cases c24 : ((t271 == 0) == (t273 == 0)) = true
              · rw [if_pos c24] at H
                have c24b0 : ((t271 == 0) == (t273 == 0)) = true := c24
                (try (have c24b1 : decide ((t271 == 0) = (t273 == 0)) = true := by simpa using c24))
                (try (have c24b2 : ((t271 == 0) == (t273 == 0)) = true := by simpa using c24))
                clear c24
                replace H := Option.bind_eq_some_iff.mp H
                obtain ⟨t274, A250, H⟩ := H
                replace H : (some t274) = some r := H
                have A25 := Aside0.mk A250
                clear A250
                obtain rfl := Option.some.inj H
                go_wp2_with (first | (go_at_call 10; (with_reducible refine (groupcontrollaw1_sane.calls  t274 _ A25.out).mono ?_); rintro e w26 ⟨rfl, hb⟩; have n0_ := Aside0.mk (below_step (by repeat (first | (with_reducible first | exact HB.out | apply below_alloc | apply pw_below_drewN | apply below_drew1) | exact HB.out)) hb); clear HB; have HB := n0_; clear n0_; (try clear hb); (try clear hb2); (try clear hk); (try clear hi)))
                go_ret
                exact ⟨by first | rfl | (simp [errW_none, errW_some] <;> rfl) | (simp [*, errW_none, errW_some] <;> rfl), by repeat (first | (with_reducible first | exact HB.out | apply below_alloc | apply pw_below_drewN | apply below_drew1) | exact HB.out)⟩
              · rw [if_neg c24] at H
                have c24b0 : ((t271 == 0) == (t273 == 0)) = false := by simpa using c24
                (try (have c24b1 : decide ((t271 == 0) = (t273 == 0)) = false := by simpa using c24))
                (try (have c24b2 : ((t271 == 0) == (t273 == 0)) = false := by simpa using c24))
                (try (have c24b3 : ¬ ((t271 == 0) = (t273 == 0)) := by simpa using c24))
                clear c24
                obtain rfl := Option.some.inj H
                go_wp2
                go_ret
                exact ⟨by first | rfl | (simp [errW_none, errW_some] <;> rfl) | (simp [*, errW_none, errW_some] <;> rfl), by repeat (first | (with_reducible first | exact HB.out | apply below_alloc | apply pw_below_drewN | apply below_drew1) | exact HB.out)⟩
            · replace c23 := Bool.eq_false_iff.mpr c23
              subst c23
              have H1 : (if t270.toList = t272.toList then ((name_Under.f t270 t262).bind fun t275 => (if t275 = true then ((name_Under.f t270 x5_8).bind fun t276 => (if t276 = true then ((name_Under.f t266 t262).bind fun t277 => (if t277 = true then ((name_Under.f t266 x5_8).bind fun t278 => (if t278 = true then ((name_Under.f t266 t270).bind fun t279 => (groupcontrollaw1_NameLattice.j2 kj18 t262 t270 (!t279))) else (groupcontrollaw1_NameLattice.j2 kj18 t262 t270 false))) else (groupcontrollaw1_NameLattice.j2 kj18 t262 t270 false))) else (groupcontrollaw1_NameLattice.j2 kj18 t262 t270 true))) else (groupcontrollaw1_NameLattice.j2 kj18 t262 t270 true))) else (groupcontrollaw1_NameLattice.j2 kj18 t262 t270 true)) = some r := by rw [if_neg (show ¬ (false = true) by decide)] at H; exact H
              clear H
              have H := H1
              clear H1
              have HC27 := Aside0.mk H
              clear H
              go_upto_region 11 with (fail)
              go_cut [85] (fun v85 wc => ∃ (kq : Nat) (x85_26 : Bool), v85 = .bool x85_26 ∧ Aside0 (groupcontrollaw1_NameLattice.j2 kq t262 t270 x85_26 = some r) ∧ Aside0 (kq ≤ kj18) ∧ Aside0 (Below w.heap.size w wc))
              case first =>
                have H := HC27.out
                clear HC27
                by_cases c28 : t270.toList = t272.toList
                · rw [if_pos c28] at H
                  have c28b0 : (t270.toList == t272.toList) = true := beq_iff_eq.mpr c28
                  have c28b1 : (t270.toList != t272.toList) = false := bne_eq_false_iff_eq.mpr c28
                  clear c28
                  (first | rw [c28b0] | (simp only [i64_w, i32_w]; rw [c28b0]) | skip)
                  replace H := Option.bind_eq_some_iff.mp H
                  obtain ⟨t275, A290, H⟩ := H
                  replace H : (if t275 = true then ((name_Under.f t270 x5_8).bind fun t276 => (if t276 = true then ((name_Under.f t266 t262).bind fun t277 => (if t277 = true then ((name_Under.f t266 x5_8).bind fun t278 => (if t278 = true then ((name_Under.f t266 t270).bind fun t279 => (groupcontrollaw1_NameLattice.j2 kj18 t262 t270 (!t279))) else (groupcontrollaw1_NameLattice.j2 kj18 t262 t270 false))) else (groupcontrollaw1_NameLattice.j2 kj18 t262 t270 false))) else (groupcontrollaw1_NameLattice.j2 kj18 t262 t270 true))) else (groupcontrollaw1_NameLattice.j2 kj18 t262 t270 true)) = some r := H
                  have A29 := Aside0.mk A290
                  clear A290
                  by_cases c30 : t275 = true
                  · subst c30
                    have H1 : ((name_Under.f t270 x5_8).bind fun t276 => (if t276 = true then ((name_Under.f t266 t262).bind fun t277 => (if t277 = true then ((name_Under.f t266 x5_8).bind fun t278 => (if t278 = true then ((name_Under.f t266 t270).bind fun t279 => (groupcontrollaw1_NameLattice.j2 kj18 t262 t270 (!t279))) else (groupcontrollaw1_NameLattice.j2 kj18 t262 t270 false))) else (groupcontrollaw1_NameLattice.j2 kj18 t262 t270 false))) else (groupcontrollaw1_NameLattice.j2 kj18 t262 t270 true))) = some r := by rw [if_pos rfl] at H; exact H
                    clear H
                    have H := H1
                    clear H1
                    replace H := Option.bind_eq_some_iff.mp H
                    obtain ⟨t276, A310, H⟩ := H
                    replace H : (if t276 = true then ((name_Under.f t266 t262).bind fun t277 => (if t277 = true then ((name_Under.f t266 x5_8).bind fun t278 => (if t278 = true then ((name_Under.f t266 t270).bind fun t279 => (groupcontrollaw1_NameLattice.j2 kj18 t262 t270 (!t279))) else (groupcontrollaw1_NameLattice.j2 kj18 t262 t270 false))) else (groupcontrollaw1_NameLattice.j2 kj18 t262 t270 false))) else (groupcontrollaw1_NameLattice.j2 kj18 t262 t270 true)) = some r := H
                    have A31 := Aside0.mk A310
                    clear A310
                    by_cases c32 : t276 = true
                    · subst c32
                      have H1 : ((name_Under.f t266 t262).bind fun t277 => (if t277 = true then ((name_Under.f t266 x5_8).bind fun t278 => (if t278 = true then ((name_Under.f t266 t270).bind fun t279 => (groupcontrollaw1_NameLattice.j2 kj18 t262 t270 (!t279))) else (groupcontrollaw1_NameLattice.j2 kj18 t262 t270 false))) else (groupcontrollaw1_NameLattice.j2 kj18 t262 t270 false))) = some r := by rw [if_pos rfl] at H; exact H
                      clear H
                      have H := H1
                      clear H1
                      replace H := Option.bind_eq_some_iff.mp H
                      obtain ⟨t277, A330, H⟩ := H
                      replace H : (if t277 = true then ((name_Under.f t266 x5_8).bind fun t278 => (if t278 = true then ((name_Under.f t266 t270).bind fun t279 => (groupcontrollaw1_NameLattice.j2 kj18 t262 t270 (!t279))) else (groupcontrollaw1_NameLattice.j2 kj18 t262 t270 false))) else (groupcontrollaw1_NameLattice.j2 kj18 t262 t270 false)) = some r := H
                      have A33 := Aside0.mk A330
                      clear A330
                      by_cases c34 : t277 = true
                      · subst c34
                        have H1 : ((name_Under.f t266 x5_8).bind fun t278 => (if t278 = true then ((name_Under.f t266 t270).bind fun t279 => (groupcontrollaw1_NameLattice.j2 kj18 t262 t270 (!t279))) else (groupcontrollaw1_NameLattice.j2 kj18 t262 t270 false))) = some r := by rw [if_pos rfl] at H; exact H
                        clear H
                        have H := H1
                        clear H1
                        replace H := Option.bind_eq_some_iff.mp H
                        obtain ⟨t278, A350, H⟩ := H
                        replace H : (if t278 = true then ((name_Under.f t266 t270).bind fun t279 => (groupcontrollaw1_NameLattice.j2 kj18 t262 t270 (!t279))) else (groupcontrollaw1_NameLattice.j2 kj18 t262 t270 false)) = some r := H
                        have A35 := Aside0.mk A350
                        clear A350
                        by_cases c36 : t278 = true
                        · subst c36
                          have H1 : ((name_Under.f t266 t270).bind fun t279 => (groupcontrollaw1_NameLattice.j2 kj18 t262 t270 (!t279))) = some r := by rw [if_pos rfl] at H; exact H
                          clear H
                          have H := H1
                          clear H1
                          replace H := Option.bind_eq_some_iff.mp H
                          obtain ⟨t279, A370, H⟩ := H
                          replace H : (groupcontrollaw1_NameLattice.j2 kj18 t262 t270 (!t279)) = some r := H
                          have A37 := Aside0.mk A370
                          clear A370
                          have H' := Aside0.mk H
                          clear H
                          go_wp2_with (first | (go_at_call 23; (with_reducible refine (name_Under.calls t270 t262 true _ A29.out).mono ?_); rintro e w38 ⟨rfl, hb⟩; have n0_ := Aside0.mk (below_step (by repeat (first | (with_reducible first | exact HB.out | apply below_alloc | apply pw_below_drewN | apply below_drew1) | exact HB.out)) hb); clear HB; have HB := n0_; clear n0_; (try clear hb); (try clear hb2); (try clear hk); (try clear hi)) | (go_at_call 23; (with_reducible refine (name_Under.calls t270 x5_8 true _ A31.out).mono ?_); rintro e w39 ⟨rfl, hb⟩; have n0_ := Aside0.mk (below_step (by repeat (first | (with_reducible first | exact HB.out | apply below_alloc | apply pw_below_drewN | apply below_drew1) | exact HB.out)) hb); clear HB; have HB := n0_; clear n0_; (try clear hb); (try clear hb2); (try clear hk); (try clear hi)) | (go_at_call 23; (with_reducible refine (name_Under.calls t266 t262 true _ A33.out).mono ?_); rintro e w40 ⟨rfl, hb⟩; have n0_ := Aside0.mk (below_step (by repeat (first | (with_reducible first | exact HB.out | apply below_alloc | apply pw_below_drewN | apply below_drew1) | exact HB.out)) hb); clear HB; have HB := n0_; clear n0_; (try clear hb); (try clear hb2); (try clear hk); (try clear hi)) | (go_at_call 23; (with_reducible refine (name_Under.calls t266 x5_8 true _ A35.out).mono ?_); rintro e w41 ⟨rfl, hb⟩; have n0_ := Aside0.mk (below_step (by repeat (first | (with_reducible first | exact HB.out | apply below_alloc | apply pw_below_drewN | apply below_drew1) | exact HB.out)) hb); clear HB; have HB := n0_; clear n0_; (try clear hb); (try clear hb2); (try clear hk); (try clear hi)) | (go_at_call 23; (with_reducible refine (name_Under.calls t266 t270 t279 _ A37.out).mono ?_); rintro e w42 ⟨rfl, hb⟩; have n0_ := Aside0.mk (below_step (by repeat (first | (with_reducible first | exact HB.out | apply below_alloc | apply pw_below_drewN | apply below_drew1) | exact HB.out)) hb); clear HB; have HB := n0_; clear n0_; (try clear hb); (try clear hb2); (try clear hk); (try clear hi)))
                          go_meet
                          case rel => exact ⟨_, (!t279), (by first | rfl | (simp; done) | (simp [*]; done)), H', ⟨by have := HJ8.out; have := HJ18.out; first | omega | exact Nat.le_refl _⟩, ⟨by repeat (first | (with_reducible first | exact HB.out | apply below_alloc | apply pw_below_drewN | apply below_drew1) | exact HB.out)⟩⟩
                        · replace c36 := Bool.eq_false_iff.mpr c36
                          subst c36
                          have H1 : (groupcontrollaw1_NameLattice.j2 kj18 t262 t270 false) = some r := by rw [if_neg (show ¬ (false = true) by decide)] at H; exact H
                          clear H
                          have H := H1
                          clear H1
                          have H' := Aside0.mk H
                          clear H
                          go_wp2_with (first | (go_at_call 23; (with_reducible refine (name_Under.calls t270 t262 true _ A29.out).mono ?_); rintro e w43 ⟨rfl, hb⟩; have n0_ := Aside0.mk (below_step (by repeat (first | (with_reducible first | exact HB.out | apply below_alloc | apply pw_below_drewN | apply below_drew1) | exact HB.out)) hb); clear HB; have HB := n0_; clear n0_; (try clear hb); (try clear hb2); (try clear hk); (try clear hi)) | (go_at_call 23; (with_reducible refine (name_Under.calls t270 x5_8 true _ A31.out).mono ?_); rintro e w44 ⟨rfl, hb⟩; have n0_ := Aside0.mk (below_step (by repeat (first | (with_reducible first | exact HB.out | apply below_alloc | apply pw_below_drewN | apply below_drew1) | exact HB.out)) hb); clear HB; have HB := n0_; clear n0_; (try clear hb); (try clear hb2); (try clear hk); (try clear hi)) | (go_at_call 23; (with_reducible refine (name_Under.calls t266 t262 true _ A33.out).mono ?_); rintro e w45 ⟨rfl, hb⟩; have n0_ := Aside0.mk (below_step (by repeat (first | (with_reducible first | exact HB.out | apply below_alloc | apply pw_below_drewN | apply below_drew1) | exact HB.out)) hb); clear HB; have HB := n0_; clear n0_; (try clear hb); (try clear hb2); (try clear hk); (try clear hi)) | (go_at_call 23; (with_reducible refine (name_Under.calls t266 x5_8 false _ A35.out).mono ?_); rintro e w46 ⟨rfl, hb⟩; have n0_ := Aside0.mk (below_step (by repeat (first | (with_reducible first | exact HB.out | apply below_alloc | apply pw_below_drewN | apply below_drew1) | exact HB.out)) hb); clear HB; have HB := n0_; clear n0_; (try clear hb); (try clear hb2); (try clear hk); (try clear hi)))
                          go_meet
                          case rel => exact ⟨_, (false), (by first | rfl | (simp; done) | (simp [*]; done)), H', ⟨by have := HJ8.out; have := HJ18.out; first | omega | exact Nat.le_refl _⟩, ⟨by repeat (first | (with_reducible first | exact HB.out | apply below_alloc | apply pw_below_drewN | apply below_drew1) | exact HB.out)⟩⟩
                      · replace c34 := Bool.eq_false_iff.mpr c34
                        subst c34
                        have H1 : (groupcontrollaw1_NameLattice.j2 kj18 t262 t270 false) = some r := by rw [if_neg (show ¬ (false = true) by decide)] at H; exact H
                        clear H
                        have H := H1
                        clear H1
                        have H' := Aside0.mk H
                        clear H
                        go_wp2_with (first | (go_at_call 23; (with_reducible refine (name_Under.calls t270 t262 true _ A29.out).mono ?_); rintro e w47 ⟨rfl, hb⟩; have n0_ := Aside0.mk (below_step (by repeat (first | (with_reducible first | exact HB.out | apply below_alloc | apply pw_below_drewN | apply below_drew1) | exact HB.out)) hb); clear HB; have HB := n0_; clear n0_; (try clear hb); (try clear hb2); (try clear hk); (try clear hi)) | (go_at_call 23; (with_reducible refine (name_Under.calls t270 x5_8 true _ A31.out).mono ?_); rintro e w48 ⟨rfl, hb⟩; have n0_ := Aside0.mk (below_step (by repeat (first | (with_reducible first | exact HB.out | apply below_alloc | apply pw_below_drewN | apply below_drew1) | exact HB.out)) hb); clear HB; have HB := n0_; clear n0_; (try clear hb); (try clear hb2); (try clear hk); (try clear hi)) | (go_at_call 23; (with_reducible refine (name_Under.calls t266 t262 false _ A33.out).mono ?_); rintro e w49 ⟨rfl, hb⟩; have n0_ := Aside0.mk (below_step (by repeat (first | (with_reducible first | exact HB.out | apply below_alloc | apply pw_below_drewN | apply below_drew1) | exact HB.out)) hb); clear HB; have HB := n0_; clear n0_; (try clear hb); (try clear hb2); (try clear hk); (try clear hi)))
                        go_meet
                        case rel => exact ⟨_, (false), (by first | rfl | (simp; done) | (simp [*]; done)), H', ⟨by have := HJ8.out; have := HJ18.out; first | omega | exact Nat.le_refl _⟩, ⟨by repeat (first | (with_reducible first | exact HB.out | apply below_alloc | apply pw_below_drewN | apply below_drew1) | exact HB.out)⟩⟩
                    · replace c32 := Bool.eq_false_iff.mpr c32
                      subst c32
                      have H1 : (groupcontrollaw1_NameLattice.j2 kj18 t262 t270 true) = some r := by rw [if_neg (show ¬ (false = true) by decide)] at H; exact H
                      clear H
                      have H := H1
                      clear H1
                      have H' := Aside0.mk H
                      clear H
                      go_wp2_with (first | (go_at_call 23; (with_reducible refine (name_Under.calls t270 t262 true _ A29.out).mono ?_); rintro e w50 ⟨rfl, hb⟩; have n0_ := Aside0.mk (below_step (by repeat (first | (with_reducible first | exact HB.out | apply below_alloc | apply pw_below_drewN | apply below_drew1) | exact HB.out)) hb); clear HB; have HB := n0_; clear n0_; (try clear hb); (try clear hb2); (try clear hk); (try clear hi)) | (go_at_call 23; (with_reducible refine (name_Under.calls t270 x5_8 false _ A31.out).mono ?_); rintro e w51 ⟨rfl, hb⟩; have n0_ := Aside0.mk (below_step (by repeat (first | (with_reducible first | exact HB.out | apply below_alloc | apply pw_below_drewN | apply below_drew1) | exact HB.out)) hb); clear HB; have HB := n0_; clear n0_; (try clear hb); (try clear hb2); (try clear hk); (try clear hi)))
                      go_meet
                      case rel => exact ⟨_, (true), (by first | rfl | (simp; done) | (simp [*]; done)), H', ⟨by have := HJ8.out; have := HJ18.out; first | omega | exact Nat.le_refl _⟩, ⟨by repeat (first | (with_reducible first | exact HB.out | apply below_alloc | apply pw_below_drewN | apply below_drew1) | exact HB.out)⟩⟩
                  · replace c30 := Bool.eq_false_iff.mpr c30
                    subst c30
                    have H1 : (groupcontrollaw1_NameLattice.j2 kj18 t262 t270 true) = some r := by rw [if_neg (show ¬ (false = true) by decide)] at H; exact H
                    clear H
                    have H := H1
                    clear H1
                    have H' := Aside0.mk H
                    clear H
                    go_wp2_with (first | (go_at_call 23; (with_reducible refine (name_Under.calls t270 t262 false _ A29.out).mono ?_); rintro e w52 ⟨rfl, hb⟩; have n0_ := Aside0.mk (below_step (by repeat (first | (with_reducible first | exact HB.out | apply below_alloc | apply pw_below_drewN | apply below_drew1) | exact HB.out)) hb); clear HB; have HB := n0_; clear n0_; (try clear hb); (try clear hb2); (try clear hk); (try clear hi)))
                    go_meet
                    case rel => exact ⟨_, (true), (by first | rfl | (simp; done) | (simp [*]; done)), H', ⟨by have := HJ8.out; have := HJ18.out; first | omega | exact Nat.le_refl _⟩, ⟨by repeat (first | (with_reducible first | exact HB.out | apply below_alloc | apply pw_below_drewN | apply below_drew1) | exact HB.out)⟩⟩
                · rw [if_neg c28] at H
                  have c28b0 : (t270.toList == t272.toList) = false := beq_eq_false_iff_ne.mpr c28
                  have c28b1 : (t270.toList != t272.toList) = true := bne_iff_ne.mpr c28
                  (first | rw [c28b0] | (simp only [i64_w, i32_w]; rw [c28b0]) | skip)
                  have H' := Aside0.mk H
                  clear H
                  go_wp2
                  go_meet
                  case rel => exact ⟨_, (true), (by first | rfl | (simp; done) | (simp [*]; done)), H', ⟨by have := HJ8.out; have := HJ18.out; first | omega | exact Nat.le_refl _⟩, ⟨by repeat (first | (with_reducible first | exact HB.out | apply below_alloc | apply pw_below_drewN | apply below_drew1) | exact HB.out)⟩⟩
              case rest =>
                clear HC27
                try clear c1
                try clear c2
                try clear p2
                try clear c3
                try clear c6
                try clear c11
                try clear c12
                try clear c13
                try clear c15
                try clear c16
                try clear c16b0
                try clear c16b1
                try clear c16b2
                try clear c21
                try clear c22
                try clear c22b0
                try clear c22b1
                try clear c23
                try clear c24
                try clear c24b0
                try clear c24b1
                try clear c24b2
                try clear c28
                try clear c28b0
                try clear c28b1
                try clear c30
                try clear c32
                try clear c34
                try clear c36
                try clear p2
                obtain ⟨kq, x85_26, rfl, HA, HJ26, HB⟩ := hcut
                cases kq with
                | zero => exact absurd HA.out (by simp [groupcontrollaw1_NameLattice.j2])
                | succ kj26 =>
                  have H := HA.out
                  clear HA
                  simp only [groupcontrollaw1_NameLattice.j2] at H
                  by_cases c53 : x85_26 = true
                  · subst c53
                    have H1 : (some false) = some r := by rw [if_pos rfl] at H; exact H
                    clear H
                    have H := H1
                    clear H1
                    obtain rfl := Option.some.inj H
                    go_wp2
                    go_ret
                    exact ⟨by first | rfl | (simp [errW_none, errW_some] <;> rfl) | (simp [*, errW_none, errW_some] <;> rfl), by repeat (first | (with_reducible first | exact HB.out | apply below_alloc | apply pw_below_drewN | apply below_drew1) | exact HB.out)⟩
                  · replace c53 := Bool.eq_false_iff.mpr c53
                    subst c53
                    have H1 : ((name_Common.f t270 t262).bind fun bt280 => (if bt280.2 = 0 then (if bt280.1.toList = t270.toList then ((groupcontrollaw1_sane.f).bind fun t282 => (some t282)) else (some false)) else (some false))) = some r := by rw [if_neg (show ¬ (false = true) by decide)] at H; exact H
                    clear H
                    have H := H1
                    clear H1
                    replace H := Option.bind_eq_some_iff.mp H
                    obtain ⟨⟨t280, t281⟩, A540, H⟩ := H
                    replace H : (if t281 = 0 then (if t280.toList = t270.toList then ((groupcontrollaw1_sane.f).bind fun t282 => (some t282)) else (some false)) else (some false)) = some r := H
                    have A54 := Aside0.mk A540
                    clear A540
                    by_cases c55 : t281 = 0
                    · rw [if_pos c55] at H
                      have c55b0 : (t281 == 0) = true := beq_iff_eq.mpr c55
                      have c55b1 : (t281 != 0) = false := bne_eq_false_iff_eq.mpr c55
                      clear c55
                      by_cases c56 : t280.toList = t270.toList
                      · rw [if_pos c56] at H
                        have c56b0 : (t280.toList == t270.toList) = true := beq_iff_eq.mpr c56
                        have c56b1 : (t280.toList != t270.toList) = false := bne_eq_false_iff_eq.mpr c56
                        clear c56
                        replace H := Option.bind_eq_some_iff.mp H
                        obtain ⟨t282, A570, H⟩ := H
                        replace H : (some t282) = some r := H
                        have A57 := Aside0.mk A570
                        clear A570
                        obtain rfl := Option.some.inj H
                        go_wp2_with (first | ((with_reducible refine gate_callee (f := 22) rfl ?_); refine goesL_ (some 89) rfl rfl Tryd.func22 (by kernel_rfl) rfl #[.string t270, .string t262] rfl (by (try simp only [List.map_toArray, List.map_cons, List.map_nil]); first | done | rfl | (simp only [List.length_drop, List.length_take]; rfl)) ?_; (with_reducible refine (name_Common.calls t270 t262 t280 t281 _ A54.out).mono ?_); rintro e w58 ⟨rfl, hb⟩; refine ⟨_, rfl, ?_⟩; have n0_ := Aside0.mk (below_step (by repeat (first | (with_reducible first | exact HB.out | apply below_alloc | apply pw_below_drewN | apply below_drew1) | exact HB.out)) hb); clear HB; have HB := n0_; clear n0_; (try clear hb); (try clear hb2); (try clear hk); (try clear hi)) | (go_at_call 10; (with_reducible refine (groupcontrollaw1_sane.calls  t282 _ A57.out).mono ?_); rintro e w59 ⟨rfl, hb⟩; have n0_ := Aside0.mk (below_step (by repeat (first | (with_reducible first | exact HB.out | apply below_alloc | apply pw_below_drewN | apply below_drew1) | exact HB.out)) hb); clear HB; have HB := n0_; clear n0_; (try clear hb); (try clear hb2); (try clear hk); (try clear hi)))
                        go_ret
                        exact ⟨by first | rfl | (simp [errW_none, errW_some] <;> rfl) | (simp [*, errW_none, errW_some] <;> rfl), by repeat (first | (with_reducible first | exact HB.out | apply below_alloc | apply pw_below_drewN | apply below_drew1) | exact HB.out)⟩
                      · rw [if_neg c56] at H
                        have c56b0 : (t280.toList == t270.toList) = false := beq_eq_false_iff_ne.mpr c56
                        have c56b1 : (t280.toList != t270.toList) = true := bne_iff_ne.mpr c56
                        obtain rfl := Option.some.inj H
                        go_wp2_with (first | ((with_reducible refine gate_callee (f := 22) rfl ?_); refine goesL_ (some 89) rfl rfl Tryd.func22 (by kernel_rfl) rfl #[.string t270, .string t262] rfl (by (try simp only [List.map_toArray, List.map_cons, List.map_nil]); first | done | rfl | (simp only [List.length_drop, List.length_take]; rfl)) ?_; (with_reducible refine (name_Common.calls t270 t262 t280 t281 _ A54.out).mono ?_); rintro e w60 ⟨rfl, hb⟩; refine ⟨_, rfl, ?_⟩; have n0_ := Aside0.mk (below_step (by repeat (first | (with_reducible first | exact HB.out | apply below_alloc | apply pw_below_drewN | apply below_drew1) | exact HB.out)) hb); clear HB; have HB := n0_; clear n0_; (try clear hb); (try clear hb2); (try clear hk); (try clear hi)))
                        go_ret
                        exact ⟨by first | rfl | (simp [errW_none, errW_some] <;> rfl) | (simp [*, errW_none, errW_some] <;> rfl), by repeat (first | (with_reducible first | exact HB.out | apply below_alloc | apply pw_below_drewN | apply below_drew1) | exact HB.out)⟩
                    · rw [if_neg c55] at H
                      have c55b0 : (t281 == 0) = false := beq_eq_false_iff_ne.mpr c55
                      have c55b1 : (t281 != 0) = true := bne_iff_ne.mpr c55
                      obtain rfl := Option.some.inj H
                      go_wp2_with (first | ((with_reducible refine gate_callee (f := 22) rfl ?_); refine goesL_ (some 89) rfl rfl Tryd.func22 (by kernel_rfl) rfl #[.string t270, .string t262] rfl (by (try simp only [List.map_toArray, List.map_cons, List.map_nil]); first | done | rfl | (simp only [List.length_drop, List.length_take]; rfl)) ?_; (with_reducible refine (name_Common.calls t270 t262 t280 t281 _ A54.out).mono ?_); rintro e w61 ⟨rfl, hb⟩; refine ⟨_, rfl, ?_⟩; have n0_ := Aside0.mk (below_step (by repeat (first | (with_reducible first | exact HB.out | apply below_alloc | apply pw_below_drewN | apply below_drew1) | exact HB.out)) hb); clear HB; have HB := n0_; clear n0_; (try clear hb); (try clear hb2); (try clear hk); (try clear hi)))
                      go_ret
                      exact ⟨by first | rfl | (simp [errW_none, errW_some] <;> rfl) | (simp [*, errW_none, errW_some] <;> rfl), by repeat (first | (with_reducible first | exact HB.out | apply below_alloc | apply pw_below_drewN | apply below_drew1) | exact HB.out)⟩
  · replace c3 := Bool.eq_false_iff.mpr c3
    subst c3
    have H1 : ((groupcontrollaw1_sane.f).bind fun t258 => (some t258)) = some r := by rw [if_neg (show ¬ (false = true) by decide)] at H; exact H
    clear H
    have H := H1
    clear H1
    replace H := Option.bind_eq_some_iff.mp H
    obtain ⟨t258, A620, H⟩ := H
    replace H : (some t258) = some r := H
    have A62 := Aside0.mk A620
    clear A620
    obtain rfl := Option.some.inj H
    go_enter Tryd.func6, Tryd.ntmps6
    go_wp2_with (first | ((with_reducible refine gate_callee (f := 11) rfl ?_); refine goesL_ (some 14) rfl rfl Tryd.func11 (by kernel_rfl) rfl #[.slice A0 l0.length c0] rfl (by (try simp only [List.map_toArray, List.map_cons, List.map_nil]); first | done | rfl | (simp only [List.length_drop, List.length_take]; rfl)) ?_; (with_reducible refine (groupcontrolmade_Light.calls _ _ l0 false _ ?side1 ?side2 A2.out).mono ?_); (case side1 => repeat (first | exact HR0.out | (with_reducible refine Kd.C_alloc ?_ _) | (with_reducible refine Kd.C_drewN ?_ _) | (with_reducible refine Kd.C_drew ?_))); (case side2 => exact HC0.out); rintro e w' ⟨rfl, ⟨nd, rfl⟩⟩; refine ⟨_, rfl, ?_⟩) | ((with_reducible refine gate_callee (f := 10) rfl ?_); refine goesL_ (some 16) rfl rfl Tryd.func10 (by kernel_rfl) rfl #[] rfl (by (try simp only [List.map_toArray, List.map_cons, List.map_nil]); first | done | rfl | (simp only [List.length_drop, List.length_take]; rfl)) ?_; (with_reducible refine (groupcontrollaw1_sane.calls  t258 _ A62.out).mono ?_); rintro e w63 ⟨rfl, hb⟩; refine ⟨_, rfl, ?_⟩; have n0_ := Aside0.mk (below_step (by repeat (first | (with_reducible first | exact HB.out | apply below_alloc | apply pw_below_drewN | apply below_drew1) | exact HB.out)) hb); clear HB; have HB := n0_; clear n0_; (try clear hb); (try clear hb2); (try clear hk); (try clear hi)))
    go_ret
    exact ⟨by first | rfl | (simp [errW_none, errW_some] <;> rfl) | (simp [*, errW_none, errW_some] <;> rfl), by repeat (first | (with_reducible first | exact HB.out | apply below_alloc | apply pw_below_drewN | apply below_drew1) | exact HB.out)⟩

/-- THE ONE PURE STATEMENT of groupcontrollaw1_NameLattice: yours. -/
def groupcontrollaw1_NameLattice.Pure : Prop := ∀ (l0 : List Int), l0.length ≤ maxLen → l0.length * 8 ≤ 140737488351232 → (∀ x ∈ l0, (Lit.int .i64 x).wf = true) → ∃ k, groupcontrollaw1_NameLattice.f k l0 = some true
theorem groupcontrollaw1_NameLattice.walk (P : groupcontrollaw1_NameLattice.Pure) (a0 : Option Addr) (len0 cap0 : Nat) (z0 : List Int) (w : World) (w0 : (a0 = none ∧ len0 = 0 ∧ cap0 = 0 ∧ z0 = []) ∨ ∃ x, a0 = some x ∧ len0 ≤ cap0 ∧ cap0 ≤ maxLen ∧ z0.length = cap0 ∧ (∀ i, i < z0.length → w.cell? (x.add i) = some (.int .i64 (z0.getD i 0))) ∧ ∀ n ∈ z0, (Lit.int .i64 n).wf = true) (y0 : len0 * 8 ≤ 140737488351232) :
    Calls Tryd.prog 6 #[.slice a0 len0 cap0] w fun e w' => e = .returned (.bool true) ∧ Below w.heap.size w w' := by
  obtain ⟨l0, rfl, hr0, hm0, hw0, hc0⟩ := ReadsInt.ofRowC w0
  obtain ⟨k, h⟩ := P l0 hm0 y0 hw0
  refine (groupcontrollaw1_NameLattice.calls k _ _ l0 true w (Kd.C_of_reads (d := (0 : Int)) (h1 := fun _ => rfl) hr0) hc0 h).mono ?_
  rintro e w' ⟨rfl, hd⟩
  exact ⟨rfl, hd⟩

end Go.Proofs.YtjpbdkfgblmioaaDoor.PA
