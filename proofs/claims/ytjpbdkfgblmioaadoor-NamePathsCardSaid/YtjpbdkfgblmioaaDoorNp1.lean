/- Contracts of functions of the program and of its references, over the translation, for values that can be read as data: each call comes to what a Lean function says. Written by the kit's printer and a program of this session's, with hand-made contracts spliced in. -/
import Derived.Test.YtjpbdkfgblmioaaDoorPAx19
import Derived.Test.YtjpbdkfgblmioaaDoorPAx20
import Derived.Test.YtjpbdkfgblmioaaDoorPAx21
import Derived.Test.YtjpbdkfgblmioaaDoorPAx22
import Derived.Test.YtjpbdkfgblmioaaDoorPAx23
import Derived.Test.YtjpbdkfgblmioaaDoorPAx13
import Derived.Test.YtjpbdkfgblmioaaDoorPAx14
import Derived.Test.YtjpbdkfgblmioaaDoorPAx15
namespace Go.Proofs.YtjpbdkfgblmioaaDoor.PA
open Go.RowKit Go.Proofs.YtjpbdkfgblmioaaDoorW.PrintWords Go.Proofs.YtjpbdkfgblmioaaDoorW.PrintLast Go.Proofs.YtjpbdkfgblmioaaDoorW.PrintMore
attribute [local go_sem] max2_int min2_int max_two min_two max_three min_three max_four min_four   -- for this text's walks alone
set_option linter.unusedVariables false
set_option linter.unusedSimpArgs false

theorem info22 : (Tryd.prog.info? 22).map (fun i => (i.zero, i.size, i.bytes)) = some (some (.slice none 0 0), 1, 24) := by kernel_rfl
def rd_L3 (xs : List (List ByteArray)) (i : Int) : (List ByteArray) := xs.getD i.toNat ([] : List ByteArray)
theorem at_L3 {w : World} {A : Option Addr} {n : Nat} {xs : List (List ByteArray)} (h : Kd.C (Kd.slice 9 Kd.string) w A n xs) (i : Int) (h0 : 0 ≤ i) (h1 : i < n) : ∃ ad A0 c0, A = some ad ∧ w.cell? (ad.add i.toNat) = some (.slice A0 (rd_L3 xs i).length c0) ∧ (rd_L3 xs i).length ≤ c0 ∧ Kd.string.C w A0 (rd_L3 xs i).length (rd_L3 xs i) := by
  obtain ⟨ad, c, e, _, hK, hc0⟩ := Kd.C_get h ([] : List ByteArray) i h0 h1
  have hc : ∀ j u, c[j]? = some u → w.cell? (ad.add (i.toNat * 1 + j)) = some u := hc0
  obtain ⟨A0, c0, rfl, l0, g0⟩ := hK
  exact ⟨ad, A0, c0, e, by have hq := hc 0 _ rfl; rwa [Nat.mul_one, Nat.add_zero] at hq, l0, g0⟩

/-! ### groupcontrollaw1_NamePaths: function 4 -/
mutual
def groupcontrollaw1_NamePaths.j0 : Nat → ByteArray → List ByteArray → List Int → Bool → Option (Bool)
  | 0, _, _, _, _ => none
  | k + 1, x0, x1, x2, x32 => if x32 = true then ((groupcontrollaw1_sane.f).bind fun t170 => (some t170)) else ((groupcontrolmade_Roll.f x2).bind fun bt171 => (if 1 + x0.size ≤ 9223372036854775807 then ((groupcontrolmade_Dice_Path.f k bt171.1 bt171.2).bind fun bt174 => ((groupcontrolmade_Dice_Path.f k bt171.1 bt174.2).bind fun bt176 => ((groupcontrolmade_Dice_Word.f k bt171.1 bt176.2).bind fun bt178 => ((some (([x0, (⟨#[47]⟩ : ByteArray) ++ x0, bt174.1, bt176.1, bt178.1] : List ByteArray) : List ByteArray)).bind fun y180 => (groupcontrollaw1_NamePaths.l0 k x1 y180 (y180.length : Int) 0 bt171.1 bt178.2))))) else (none)))
def groupcontrollaw1_NamePaths.l0 : Nat → List ByteArray → List ByteArray → Int → Int → List Int → Int → Option (Bool)
  | 0, _, _, _, _, _, _ => none
  | k + 1, x1, x45, x46, x47, x174000, x174001 => if x47 < x46 then (if 0 ≤ x47 then (if x47 < (x45.length : Int) then ((name_Split.f (rdOf ByteArray.empty x45 x47)).bind fun bt184 => ((groupcontrolref1_Split.f k (rdOf ByteArray.empty x45 x47)).bind fun bt188 => (if bt184.2 = bt188.2 then ((groupcontrollaw1_same.f k bt184.1 bt188.1).bind fun t192 => (if t192 = true then ((name_Valid.f (rdOf ByteArray.empty x45 x47)).bind fun t193 => ((groupcontrolref1_Valid.f k (rdOf ByteArray.empty x45 x47)).bind fun t194 => (if (t193 != t194) = true then (some false) else (groupcontrollaw1_NamePaths.l0 k x1 x45 x46 (wrap64 (x47 + 1)) x174000 x174001)))) else (some false))) else (some false)))) else (none)) else (none)) else ((groupcontrolmade_Dice_Word.f k x174000 x174001).bind fun bt195 => ((groupcontrolmade_Dice_Name.f k x174000 bt195.2).bind fun bt197 => ((groupcontrolmade_Dice_Next.f k x174000 bt197.2 10).bind fun bt205 => (if 0 ≤ bt205.1 then (if bt205.1 ≤ ((([(⟨#[97]⟩ : ByteArray), (⟨#[98]⟩ : ByteArray), (⟨#[99]⟩ : ByteArray), (⟨#[100]⟩ : ByteArray), (⟨#[101]⟩ : ByteArray), (⟨#[102]⟩ : ByteArray), (⟨#[103]⟩ : ByteArray), (⟨#[104]⟩ : ByteArray), (⟨#[105]⟩ : ByteArray)] : List ByteArray)).length : Int) then ((some (([x1, (([bt195.1, bt197.1] : List ByteArray)), ([(⟨#[97]⟩ : ByteArray), (⟨#[98]⟩ : ByteArray), (⟨#[99]⟩ : ByteArray), (⟨#[100]⟩ : ByteArray), (⟨#[101]⟩ : ByteArray), (⟨#[102]⟩ : ByteArray), (⟨#[103]⟩ : ByteArray), (⟨#[104]⟩ : ByteArray), (⟨#[105]⟩ : ByteArray)] : List ByteArray).take (bt205.1 : Int).toNat] : List (List ByteArray)) : List (List ByteArray))).bind fun y212 => (groupcontrollaw1_NamePaths.l1 k y212 (y212.length : Int) 0)) else (none)) else (none)))))
def groupcontrollaw1_NamePaths.l1 : Nat → List (List ByteArray) → Int → Int → Option (Bool)
  | 0, _, _, _ => none
  | k + 1, x88, x89, x90 => if x90 < x89 then (if 0 ≤ x90 then (if x90 < (x88.length : Int) then ((name_Join.f (rd_L3 x88 x90)).bind fun bt217 => ((groupcontrolref1_Join.f k (rd_L3 x88 x90)).bind fun bt219 => (if bt217.1.toList = bt219.1.toList then (if bt217.2 = bt219.2 then (groupcontrollaw1_NamePaths.l1 k x88 x89 (wrap64 (x90 + 1))) else (some false)) else (some false)))) else (none)) else (none)) else ((groupcontrollaw1_sane.f).bind fun t215 => (some t215))
end
def groupcontrollaw1_NamePaths.f (k : Nat) (a0 : ByteArray) (l1 : List ByteArray) (l2 : List Int) : Option (Bool) := if (a0.size : Int) > 500 then (groupcontrollaw1_NamePaths.j0 k a0 l1 l2 true) else (if (l1.length : Int) > 20 then (groupcontrollaw1_NamePaths.j0 k a0 l1 l2 true) else ((groupcontrolmade_Light.f l2).bind fun t169 => (groupcontrollaw1_NamePaths.j0 k a0 l1 l2 (!t169))))
set_option maxHeartbeats 8000000 in
set_option maxRecDepth 100000 in
theorem groupcontrollaw1_NamePaths.calls (k : Nat) (a0 : ByteArray) (A1 : Option Addr) (c1 : Nat) (l1 : List ByteArray) (A2 : Option Addr) (c2 : Nat) (l2 : List Int) (r : Bool) (w : World) (hr1 : Kd.C Kd.string w A1 l1.length l1) (hc1 : l1.length ≤ c1) (hr2 : Kd.C (Kd.int .i64) w A2 l2.length l2) (hc2 : l2.length ≤ c2) (h : groupcontrollaw1_NamePaths.f k a0 l1 l2 = some r) :
    Calls Tryd.prog 4 #[.string a0, .slice A1 l1.length c1, .slice A2 l2.length c2] w fun e w' => e = .returned (.bool r) ∧ Below w.heap.size w w' := by
  have HR1 := Aside0.mk hr1
  have HC1 := Aside0.mk hc1
  clear hr1 hc1
  have HR2 := Aside0.mk hr2
  have HC2 := Aside0.mk hc2
  clear hr2 hc2
  have HB := Aside0.mk (Below.refl w.heap.size w)
  have H : (if (a0.size : Int) > 500 then (groupcontrollaw1_NamePaths.j0 k a0 l1 l2 true) else (if (l1.length : Int) > 20 then (groupcontrollaw1_NamePaths.j0 k a0 l1 l2 true) else ((groupcontrolmade_Light.f l2).bind fun t169 => (groupcontrollaw1_NamePaths.j0 k a0 l1 l2 (!t169))))) = some r := h
  clear h
  have HC4 := Aside0.mk H
  clear H
  go_enter Tryd.func4, Tryd.ntmps4
  go_upto_region 1 with (fail)
  go_cut [32] (fun v32 wc => ∃ (kq : Nat) (x32_3 : Bool), v32 = .bool x32_3 ∧ Aside0 (groupcontrollaw1_NamePaths.j0 kq a0 l1 l2 x32_3 = some r) ∧ Aside0 (kq ≤ k) ∧ Aside0 (Below w.heap.size w wc))
  case first =>
    have H := HC4.out
    clear HC4
    by_cases c5 : (a0.size : Int) > 500
    · rw [if_pos c5] at H
      have c5b0 : decide (500 < (a0.size : Int)) = true := decide_eq_true c5
      have c5b1 : decide (500 < a0.size) = true := decide_eq_true (by omega)
      clear c5
      (first | rw [c5b0] | (simp only [i64_w, i32_w]; rw [c5b0]) | skip)
      have H' := Aside0.mk H
      clear H
      go_wp2
      go_meet
      case rel => exact ⟨_, (true), (by first | rfl | (simp; done) | (simp [*]; done)), H', ⟨by first | omega | exact Nat.le_refl _⟩, ⟨by repeat (first | (with_reducible first | exact HB.out | apply below_alloc | apply pw_below_drewN | apply below_drew1) | exact HB.out)⟩⟩
    · rw [if_neg c5] at H
      have c5b0 : decide (500 < (a0.size : Int)) = false := decide_eq_false c5
      have c5b1 : decide (500 < a0.size) = false := decide_eq_false (by omega)
      clear c5
      (first | rw [c5b0] | (simp only [i64_w, i32_w]; rw [c5b0]) | skip)
      by_cases c6 : (l1.length : Int) > 20
      · rw [if_pos c6] at H
        have c6b0 : decide (20 < (l1.length : Int)) = true := decide_eq_true c6
        have c6b1 : decide (20 < l1.length) = true := decide_eq_true (by omega)
        clear c6
        have H' := Aside0.mk H
        clear H
        go_wp2
        go_meet
        case rel => exact ⟨_, (true), (by first | rfl | (simp; done) | (simp [*]; done)), H', ⟨by first | omega | exact Nat.le_refl _⟩, ⟨by repeat (first | (with_reducible first | exact HB.out | apply below_alloc | apply pw_below_drewN | apply below_drew1) | exact HB.out)⟩⟩
      · rw [if_neg c6] at H
        have c6b0 : decide (20 < (l1.length : Int)) = false := decide_eq_false c6
        have c6b1 : decide (20 < l1.length) = false := decide_eq_false (by omega)
        clear c6
        replace H := Option.bind_eq_some_iff.mp H
        obtain ⟨t169, A70, H⟩ := H
        replace H : (groupcontrollaw1_NamePaths.j0 k a0 l1 l2 (!t169)) = some r := H
        have A7 := Aside0.mk A70
        clear A70
        have H' := Aside0.mk H
        clear H
        go_wp2_with (first | (go_at_call 11; (with_reducible refine (groupcontrolmade_Light.calls _ _ l2 t169 _ ?side1 ?side2 A7.out).mono ?_); (case side1 => repeat (first | exact (Kd.C_below HR2.out HB.out) | (with_reducible refine Kd.C_alloc ?_ _) | (with_reducible refine Kd.C_drewN ?_ _) | (with_reducible refine Kd.C_drew ?_))); (case side2 => exact HC2.out); rintro e w' ⟨rfl, ⟨nd, rfl⟩⟩))
        go_meet
        case rel => exact ⟨_, (!t169), (by first | rfl | (simp; done) | (simp [*]; done)), H', ⟨by first | omega | exact Nat.le_refl _⟩, ⟨by repeat (first | (with_reducible first | exact HB.out | apply below_alloc | apply pw_below_drewN | apply below_drew1) | exact HB.out)⟩⟩
  case rest =>
    clear HC4
    try clear c1
    try clear c2
    try clear p2
    try clear c4
    try clear c5
    try clear c5b0
    try clear c5b1
    try clear c6
    try clear c6b0
    try clear c6b1
    obtain ⟨kq, x32_3, rfl, HA, HJ3, HB⟩ := hcut
    cases kq with
    | zero => exact absurd HA.out (by simp [groupcontrollaw1_NamePaths.j0])
    | succ kj3 =>
      have H := HA.out
      clear HA
      simp only [groupcontrollaw1_NamePaths.j0] at H
      by_cases c8 : x32_3 = true
      · subst c8
        have H1 : ((groupcontrollaw1_sane.f).bind fun t170 => (some t170)) = some r := by rw [if_pos rfl] at H; exact H
        clear H
        have H := H1
        clear H1
        replace H := Option.bind_eq_some_iff.mp H
        obtain ⟨t170, A90, H⟩ := H
        replace H : (some t170) = some r := H
        have A9 := Aside0.mk A90
        clear A90
        obtain rfl := Option.some.inj H
        go_wp2_with (first | ((with_reducible refine gate_callee (f := 10) rfl ?_); refine goesL_ (some 33) rfl rfl Tryd.func10 (by kernel_rfl) rfl #[] rfl (by (try simp only [List.map_toArray, List.map_cons, List.map_nil]); first | done | rfl | (simp only [List.length_drop, List.length_take]; rfl)) ?_; (with_reducible refine (groupcontrollaw1_sane.calls  t170 _ A9.out).mono ?_); rintro e w10 ⟨rfl, hb⟩; refine ⟨_, rfl, ?_⟩; have n0_ := Aside0.mk (below_step (by repeat (first | (with_reducible first | exact HB.out | apply below_alloc | apply pw_below_drewN | apply below_drew1) | exact HB.out)) hb); clear HB; have HB := n0_; clear n0_; (try clear hb); (try clear hb2); (try clear hk); (try clear hi)))
        go_ret
        exact ⟨by first | rfl | (simp [errW_none, errW_some] <;> rfl) | (simp [*, errW_none, errW_some] <;> rfl), by repeat (first | (with_reducible first | exact HB.out | apply below_alloc | apply pw_below_drewN | apply below_drew1) | exact HB.out)⟩
      · replace c8 := Bool.eq_false_iff.mpr c8
        subst c8
        have H1 : ((groupcontrolmade_Roll.f l2).bind fun bt171 => (if 1 + a0.size ≤ 9223372036854775807 then ((groupcontrolmade_Dice_Path.f kj3 bt171.1 bt171.2).bind fun bt174 => ((groupcontrolmade_Dice_Path.f kj3 bt171.1 bt174.2).bind fun bt176 => ((groupcontrolmade_Dice_Word.f kj3 bt171.1 bt176.2).bind fun bt178 => ((some (([a0, (⟨#[47]⟩ : ByteArray) ++ a0, bt174.1, bt176.1, bt178.1] : List ByteArray) : List ByteArray)).bind fun y180 => (groupcontrollaw1_NamePaths.l0 kj3 l1 y180 (y180.length : Int) 0 bt171.1 bt178.2))))) else (none))) = some r := by rw [if_neg (show ¬ (false = true) by decide)] at H; exact H
        clear H
        have H := H1
        clear H1
        replace H := Option.bind_eq_some_iff.mp H
        obtain ⟨⟨t171, t172⟩, A110, H⟩ := H
        replace H : (if 1 + a0.size ≤ 9223372036854775807 then ((groupcontrolmade_Dice_Path.f kj3 t171 t172).bind fun bt174 => ((groupcontrolmade_Dice_Path.f kj3 t171 bt174.2).bind fun bt176 => ((groupcontrolmade_Dice_Word.f kj3 t171 bt176.2).bind fun bt178 => ((some (([a0, (⟨#[47]⟩ : ByteArray) ++ a0, bt174.1, bt176.1, bt178.1] : List ByteArray) : List ByteArray)).bind fun y180 => (groupcontrollaw1_NamePaths.l0 kj3 l1 y180 (y180.length : Int) 0 t171 bt178.2))))) else (none)) = some r := H
        have A11 := Aside0.mk A110
        clear A110
        by_cases c12 : 1 + a0.size ≤ 9223372036854775807
        · rw [if_pos c12] at H
          have c12b0 := eq_true c12
          have c12b1 : decide (1 + a0.size ≤ 9223372036854775807) = true := decide_eq_true c12
          try have c12b2 : (9223372036854775807 < 1 + a0.size) = False := eq_false (Nat.not_lt.2 c12)
          replace H := Option.bind_eq_some_iff.mp H
          obtain ⟨⟨t174, t175⟩, A130, H⟩ := H
          replace H : ((groupcontrolmade_Dice_Path.f kj3 t171 t175).bind fun bt176 => ((groupcontrolmade_Dice_Word.f kj3 t171 bt176.2).bind fun bt178 => ((some (([a0, (⟨#[47]⟩ : ByteArray) ++ a0, t174, bt176.1, bt178.1] : List ByteArray) : List ByteArray)).bind fun y180 => (groupcontrollaw1_NamePaths.l0 kj3 l1 y180 (y180.length : Int) 0 t171 bt178.2)))) = some r := H
          have A13 := Aside0.mk A130
          clear A130
          replace H := Option.bind_eq_some_iff.mp H
          obtain ⟨⟨t176, t177⟩, A140, H⟩ := H
          replace H : ((groupcontrolmade_Dice_Word.f kj3 t171 t177).bind fun bt178 => ((some (([a0, (⟨#[47]⟩ : ByteArray) ++ a0, t174, t176, bt178.1] : List ByteArray) : List ByteArray)).bind fun y180 => (groupcontrollaw1_NamePaths.l0 kj3 l1 y180 (y180.length : Int) 0 t171 bt178.2))) = some r := H
          have A14 := Aside0.mk A140
          clear A140
          replace H := Option.bind_eq_some_iff.mp H
          obtain ⟨⟨t178, t179⟩, A150, H⟩ := H
          replace H : ((some (([a0, (⟨#[47]⟩ : ByteArray) ++ a0, t174, t176, t178] : List ByteArray) : List ByteArray)).bind fun y180 => (groupcontrollaw1_NamePaths.l0 kj3 l1 y180 (y180.length : Int) 0 t171 t179)) = some r := H
          have A15 := Aside0.mk A150
          clear A150
          obtain ⟨y180, hy180⟩ : ∃ y_ : List ByteArray, y_ = (([a0, (⟨#[47]⟩ : ByteArray) ++ a0, t174, t176, t178] : List ByteArray)) := ⟨_, rfl⟩
          replace H : (groupcontrollaw1_NamePaths.l0 kj3 l1 y180 (y180.length : Int) 0 t171 t179) = some r := by first | (rw [hy180]; with_reducible exact H) | (have H2_ := (Option.bind_some _ _).symm.trans H; rw [hy180]; with_reducible exact H2_) | (have H2_ := (Option.bind_some _ _).symm.trans H; with_reducible exact H2_) | with_reducible exact H | (rw [hy180]; exact H) | exact H
          have Ny180 := Aside0.mk hy180
          clear hy180
          have H' := Aside0.mk H
          clear H
          go_wp2_with (first | ((with_reducible refine gate_callee (f := 12) rfl ?_); refine goesL_ (some 35) rfl rfl Tryd.func12 (by kernel_rfl) rfl #[.slice A2 l2.length c2] rfl (by (try simp only [List.map_toArray, List.map_cons, List.map_nil]); first | done | rfl | (simp only [List.length_drop, List.length_take]; rfl)) ?_; (with_reducible refine (groupcontrolmade_Roll.calls _ _ l2 t171 t172 w _ ?side1 ?side2 ?side3 A11.out).mono ?_); (case side1 => repeat (first | (with_reducible first | exact HB.out | apply below_alloc | apply pw_below_drewN | apply below_drew1) | exact HB.out)); (case side2 => exact HR2.out); (case side3 => exact HC2.out); rintro e w16 ⟨g173, rfl, hi, hb, hb2⟩; refine ⟨_, rfl, ?_⟩; have n0_ := Aside0.mk (hb); have n1_ := Aside0.mk (hi); clear HB; have HB := n0_; have HI173 := n1_; clear n0_ n1_; (try clear hb); (try clear hb2); (try clear hk); (try clear hi)) | ((with_reducible refine gate_callee (f := 13) rfl ?_); refine goesL_ (some 40) rfl rfl Tryd.func13 (by kernel_rfl) rfl #[.pointer (some ⟨g173, 0, none⟩)] rfl (by (try simp only [List.map_toArray, List.map_cons, List.map_nil]); first | done | rfl | (simp only [List.length_drop, List.length_take]; rfl)) ?_; (with_reducible refine (groupcontrolmade_Dice_Path.calls kj3 g173 t171 t172 t174 t175 w _ ?side1 ?side2 A13.out).mono ?_); (case side1 => repeat (first | (with_reducible first | exact HI173.out | apply IsS52.alloc | apply IsS52.drewN | apply IsS52.drew | apply IsS52.set_1) | exact HI173.out)); (case side2 => repeat (first | (with_reducible first | exact HB.out | apply below_alloc | apply pw_below_drewN | apply below_drew1 | refine below_set ?_ (IsS52.ge HI173.out)) | exact HB.out)); rintro e w17 ⟨rfl, hi, hb, hk⟩; refine ⟨_, rfl, ?_⟩; have n0_ := Aside0.mk (hb); have n1_ := Aside0.mk (hi); clear HB; clear HI173; have HB := n0_; have HI173 := n1_; clear n0_ n1_; (try clear hb); (try clear hb2); (try clear hk); (try clear hi)) | ((with_reducible refine gate_callee (f := 13) rfl ?_); refine goesL_ (some 42) rfl rfl Tryd.func13 (by kernel_rfl) rfl #[.pointer (some ⟨g173, 0, none⟩)] rfl (by (try simp only [List.map_toArray, List.map_cons, List.map_nil]); first | done | rfl | (simp only [List.length_drop, List.length_take]; rfl)) ?_; (with_reducible refine (groupcontrolmade_Dice_Path.calls kj3 g173 t171 t175 t176 t177 w _ ?side1 ?side2 A14.out).mono ?_); (case side1 => repeat (first | (with_reducible first | exact HI173.out | apply IsS52.alloc | apply IsS52.drewN | apply IsS52.drew | apply IsS52.set_1) | exact HI173.out)); (case side2 => repeat (first | (with_reducible first | exact HB.out | apply below_alloc | apply pw_below_drewN | apply below_drew1 | refine below_set ?_ (IsS52.ge HI173.out)) | exact HB.out)); rintro e w18 ⟨rfl, hi, hb, hk⟩; refine ⟨_, rfl, ?_⟩; have n0_ := Aside0.mk (hb); have n1_ := Aside0.mk (hi); clear HB; clear HI173; have HB := n0_; have HI173 := n1_; clear n0_ n1_; (try clear hb); (try clear hb2); (try clear hk); (try clear hi)) | ((with_reducible refine gate_callee (f := 14) rfl ?_); refine goesL_ (some 44) rfl rfl Tryd.func14 (by kernel_rfl) rfl #[.pointer (some ⟨g173, 0, none⟩)] rfl (by (try simp only [List.map_toArray, List.map_cons, List.map_nil]); first | done | rfl | (simp only [List.length_drop, List.length_take]; rfl)) ?_; (with_reducible refine (groupcontrolmade_Dice_Word.calls kj3 g173 t171 t177 t178 t179 w _ ?side1 ?side2 A15.out).mono ?_); (case side1 => repeat (first | (with_reducible first | exact HI173.out | apply IsS52.alloc | apply IsS52.drewN | apply IsS52.drew | apply IsS52.set_1) | exact HI173.out)); (case side2 => repeat (first | (with_reducible first | exact HB.out | apply below_alloc | apply pw_below_drewN | apply below_drew1 | refine below_set ?_ (IsS52.ge HI173.out)) | exact HB.out)); rintro e w19 ⟨rfl, hi, hb, hk⟩; refine ⟨_, rfl, ?_⟩; have n0_ := Aside0.mk (hb); have n1_ := Aside0.mk (hi); clear HB; clear HI173; have HB := n0_; have HI173 := n1_; clear n0_ n1_; (try clear hb); (try clear hb2); (try clear hk); (try clear hi)) | ((with_reducible refine gate_dst (N := 45) rfl ?_); (try (refine gate_guard (by rfl) ?_; dsimp only)); refine Kd.R_lit Kd.string _ 9 ?hg (N := 45) ?hd (xs := ([a0, (⟨#[47]⟩ : ByteArray) ++ a0, t174, t176, t178] : List ByteArray)) (inner := [.string a0, .string ((⟨#[47]⟩ : ByteArray) ++ a0), .string t174, .string t176, .string t178]) (ok := fun _ => True) (okp := fun _ => True) ?hr ?hp (fun _ hk => hk) trivial (Below.refl _ _) (Nat.le_refl _) (by simp) ?_; (case hd => rfl); (case hg => rfl); (case hr => first | (go_simp; done) | (go_simp; rfl)); (case hp => exact (Reps.one (show Kd.M Kd.string _ _ _ a0 [.string a0] from rfl) (Reps.one (show Kd.M Kd.string _ _ _ ((⟨#[47]⟩ : ByteArray) ++ a0) [.string ((⟨#[47]⟩ : ByteArray) ++ a0)] from rfl) (Reps.one (show Kd.M Kd.string _ _ _ t174 [.string t174] from rfl) (Reps.one (show Kd.M Kd.string _ _ _ t176 [.string t176] from rfl) (Reps.one (show Kd.M Kd.string _ _ _ t178 [.string t178] from rfl) (Reps.none _ _))))))); intro v181 w20 ho21 hb hg_ hnew_; clear hg_ hnew_; (first | rw [← Ny180.out] at ho21 | (simp only [Int.reduceToNat] at ho21; rw [← Ny180.out] at ho21)); have n0_ := Aside0.mk (Kd.R_lower ho21 (below_size (by repeat (first | (with_reducible first | exact HB.out | apply below_alloc | apply pw_below_drewN | apply below_drew1 | refine below_set ?_ (IsS52.ge HI173.out)) | exact HB.out)))); have n1_ := Aside0.mk (IsS52.below (by repeat (first | (with_reducible first | exact HI173.out | apply IsS52.alloc | apply IsS52.drewN | apply IsS52.drew | apply IsS52.set_1) | exact HI173.out)) hb); have n2_ := Aside0.mk (below_step (by repeat (first | (with_reducible first | exact HB.out | apply below_alloc | apply pw_below_drewN | apply below_drew1 | refine below_set ?_ (IsS52.ge HI173.out)) | exact HB.out)) hb); clear HI173; clear HB; have HO182 := n0_; have HI173 := n1_; have HB := n2_; clear n0_ n1_ n2_; clear hb ho21; obtain ⟨Ao22, co22, eo22⟩ := Kd.R_slice HO182.out; subst eo22))
          go_loopg [47] kj3 (fun kq v47 w' => ∃ (x47_2 : Int), v47 = .int .i64 x47_2 ∧ Aside0 (groupcontrollaw1_NamePaths.l0 kq l1 y180 (y180.length : Int) x47_2 t171 t179 = some r) ∧ Aside0 (kq ≤ kj3) ∧ Aside0 (Kd.R Kd.string 9 w' w.heap.size (fun _ => True) (.slice Ao22 y180.length co22) y180) ∧ Aside0 (IsS52 w w' g173 t171 t179) ∧ Aside0 (Below w.heap.size w w'))
          case atStart => exact ⟨(0), (by first | rfl | (simp; done) | (simp [*]; done)), H', ⟨Nat.le_refl _⟩, ⟨by (with_reducible repeat (first | apply Kd.R_alloc | apply Kd.R_drewN | apply Kd.R_drew)); exact HO182.out⟩, ⟨by repeat (first | (with_reducible first | exact HI173.out | apply IsS52.alloc | apply IsS52.drewN | apply IsS52.drew | apply IsS52.set_1) | exact HI173.out)⟩, ⟨by repeat (first | (with_reducible first | exact HB.out | apply below_alloc | apply pw_below_drewN | apply below_drew1 | refine below_set ?_ (IsS52.ge HI173.out)) | exact HB.out)⟩⟩
          case round =>
            clear H'
            try clear c1
            try clear c2
            try clear p2
            try clear c4
            try clear c5
            try clear c5b0
            try clear c5b1
            try clear c6
            try clear c6b0
            try clear c6b1
            try clear c8
            try clear c10
            try clear c12
            try clear c12b0
            try clear c12b1
            try clear c12b2
            try clear c13
            try clear c14
            try clear p2
            obtain ⟨x47_2, rfl, HA, HK2, HO_45, HI173, HB⟩ := hrel
            cases gk with
            | zero => exact absurd HA.out (by simp [groupcontrollaw1_NamePaths.l0])
            | succ k2 =>
              have H := HA.out
              clear HA
              simp only [groupcontrollaw1_NamePaths.l0] at H
              by_cases c23 : x47_2 < (y180.length : Int)
              · rw [if_pos c23] at H
                have c23b0 : decide (x47_2 < (y180.length : Int)) = true := decide_eq_true c23
                clear c23
                by_cases c24 : 0 ≤ x47_2
                · rw [if_pos c24] at H
                  have c24b0 : decide (0 ≤ x47_2) = true := decide_eq_true c24
                  clear c24
                  by_cases c25 : x47_2 < (y180.length : Int)
                  · rw [if_pos c25] at H
                    have c25b0 : decide (x47_2 < (y180.length : Int)) = true := decide_eq_true c25
                    clear c25
                    replace H := Option.bind_eq_some_iff.mp H
                    obtain ⟨⟨t184, t185⟩, A260, H⟩ := H
                    replace H : ((groupcontrolref1_Split.f k2 (rdOf ByteArray.empty y180 x47_2)).bind fun bt188 => (if t185 = bt188.2 then ((groupcontrollaw1_same.f k2 t184 bt188.1).bind fun t192 => (if t192 = true then ((name_Valid.f (rdOf ByteArray.empty y180 x47_2)).bind fun t193 => ((groupcontrolref1_Valid.f k2 (rdOf ByteArray.empty y180 x47_2)).bind fun t194 => (if (t193 != t194) = true then (some false) else (groupcontrollaw1_NamePaths.l0 k2 l1 y180 (y180.length : Int) (wrap64 (x47_2 + 1)) t171 t179)))) else (some false))) else (some false))) = some r := H
                    have A26 := Aside0.mk A260
                    clear A260
                    replace H := Option.bind_eq_some_iff.mp H
                    obtain ⟨⟨t188, t189⟩, A270, H⟩ := H
                    replace H : (if t185 = t189 then ((groupcontrollaw1_same.f k2 t184 t188).bind fun t192 => (if t192 = true then ((name_Valid.f (rdOf ByteArray.empty y180 x47_2)).bind fun t193 => ((groupcontrolref1_Valid.f k2 (rdOf ByteArray.empty y180 x47_2)).bind fun t194 => (if (t193 != t194) = true then (some false) else (groupcontrollaw1_NamePaths.l0 k2 l1 y180 (y180.length : Int) (wrap64 (x47_2 + 1)) t171 t179)))) else (some false))) else (some false)) = some r := H
                    have A27 := Aside0.mk A270
                    clear A270
                    by_cases c28 : t185 = t189
                    · rw [if_pos c28] at H
                      have c28b0 : (t185 == t189) = true := beq_iff_eq.mpr c28
                      have c28b1 : (t185 != t189) = false := bne_eq_false_iff_eq.mpr c28
                      clear c28
                      replace H := Option.bind_eq_some_iff.mp H
                      obtain ⟨t192, A290, H⟩ := H
                      replace H : (if t192 = true then ((name_Valid.f (rdOf ByteArray.empty y180 x47_2)).bind fun t193 => ((groupcontrolref1_Valid.f k2 (rdOf ByteArray.empty y180 x47_2)).bind fun t194 => (if (t193 != t194) = true then (some false) else (groupcontrollaw1_NamePaths.l0 k2 l1 y180 (y180.length : Int) (wrap64 (x47_2 + 1)) t171 t179)))) else (some false)) = some r := H
                      have A29 := Aside0.mk A290
                      clear A290
                      by_cases c30 : t192 = true
                      · subst c30
                        have H1 : ((name_Valid.f (rdOf ByteArray.empty y180 x47_2)).bind fun t193 => ((groupcontrolref1_Valid.f k2 (rdOf ByteArray.empty y180 x47_2)).bind fun t194 => (if (t193 != t194) = true then (some false) else (groupcontrollaw1_NamePaths.l0 k2 l1 y180 (y180.length : Int) (wrap64 (x47_2 + 1)) t171 t179)))) = some r := by rw [if_pos rfl] at H; exact H
                        clear H
                        have H := H1
                        clear H1
                        replace H := Option.bind_eq_some_iff.mp H
                        obtain ⟨t193, A310, H⟩ := H
                        replace H : ((groupcontrolref1_Valid.f k2 (rdOf ByteArray.empty y180 x47_2)).bind fun t194 => (if (t193 != t194) = true then (some false) else (groupcontrollaw1_NamePaths.l0 k2 l1 y180 (y180.length : Int) (wrap64 (x47_2 + 1)) t171 t179))) = some r := H
                        have A31 := Aside0.mk A310
                        clear A310
                        replace H := Option.bind_eq_some_iff.mp H
                        obtain ⟨t194, A320, H⟩ := H
                        replace H : (if (t193 != t194) = true then (some false) else (groupcontrollaw1_NamePaths.l0 k2 l1 y180 (y180.length : Int) (wrap64 (x47_2 + 1)) t171 t179)) = some r := H
                        have A32 := Aside0.mk A320
                        clear A320
                        by_cases c33 : (t193 != t194) = true
                        · rw [if_pos c33] at H
                          have c33b0 : (t193 != t194) = true := c33
                          (try (have c33b1 : decide (t193 = t194) = false := by simpa using c33))
                          (try (have c33b2 : (t193 == t194) = false := by simpa using c33))
                          (try (have c33b3 : ¬ (t193 = t194) := by simpa using c33))
                          clear c33
                          obtain rfl := Option.some.inj H
                          have p183 : 0 ≤ (x47_2 : Int) := of_decide_eq_true (by first | (with_reducible assumption) | assumption)
                          have q183 : x47_2 < (y180.length : Int) := of_decide_eq_true (by first | (with_reducible assumption) | assumption)
                          obtain ⟨ad183, e183, hx183_0⟩ := Kd.at_string (Kd.R_reads' HO_45.out).2.2 x47_2 p183 q183
                          cases e183
                          replace p183 := eq_true p183
                          replace q183 := eq_true q183
                          go_wp2_with (first | ((with_reducible refine gate_callee (f := 7) rfl ?_); refine goesL_ (some 53) rfl rfl Tryd.func7 (by kernel_rfl) rfl #[.string (rdOf ByteArray.empty y180 x47_2)] rfl (by (try simp only [List.map_toArray, List.map_cons, List.map_nil]); first | done | rfl | (simp only [List.length_drop, List.length_take]; rfl)) ?_; (with_reducible refine (name_Split.calls (rdOf ByteArray.empty y180 x47_2) t184 t185 _ A26.out).mono ?_); rintro e w34 ⟨v186, rfl, ho0, hb⟩; refine ⟨_, rfl, ?_⟩; have n0_ := Aside0.mk (Kd.R_elder' (by (with_reducible repeat (first | apply Kd.R_alloc | apply Kd.R_drewN | apply Kd.R_drew)); exact HO_45.out) (Kd.R_base ho0) hb); have n1_ := Aside0.mk (Kd.R_lower (Kd.R_new' ho0 (Kd.R_lt (by (with_reducible repeat (first | apply Kd.R_alloc | apply Kd.R_drewN | apply Kd.R_drew)); exact HO_45.out))) (below_size (by repeat (first | (with_reducible first | exact HB.out | apply below_alloc | apply pw_below_drewN | apply below_drew1 | refine below_set ?_ (IsS52.ge HI173.out)) | exact HB.out)))); have n2_ := Aside0.mk (IsS52.below (by repeat (first | (with_reducible first | exact HI173.out | apply IsS52.alloc | apply IsS52.drewN | apply IsS52.drew | apply IsS52.set_1) | exact HI173.out)) hb); have n3_ := Aside0.mk (below_step (by repeat (first | (with_reducible first | exact HB.out | apply below_alloc | apply pw_below_drewN | apply below_drew1 | refine below_set ?_ (IsS52.ge HI173.out)) | exact HB.out)) hb); clear HO_45; clear HI173; clear HB; have HO_45 := n0_; have HO187 := n1_; have HI173 := n2_; have HB := n3_; clear n0_ n1_ n2_ n3_; (try clear hb); (try clear hb2); (try clear hk); (try clear hi); (try clear ho0)) | ((with_reducible refine gate_callee (f := 15) rfl ?_); refine goesL_ (some 58) rfl rfl Tryd.func15 (by kernel_rfl) rfl #[.string (rdOf ByteArray.empty y180 x47_2)] rfl (by (try simp only [List.map_toArray, List.map_cons, List.map_nil]); first | done | rfl | (simp only [List.length_drop, List.length_take]; rfl)) ?_; (with_reducible refine (groupcontrolref1_Split.calls k2 (rdOf ByteArray.empty y180 x47_2) t188 t189 _ A27.out).mono ?_); rintro e w35 ⟨v190, rfl, ho0, hb⟩; refine ⟨_, rfl, ?_⟩; have n0_ := Aside0.mk (Kd.R_elder' (by (with_reducible repeat (first | apply Kd.R_alloc | apply Kd.R_drewN | apply Kd.R_drew)); exact HO_45.out) (Kd.R_base ho0) hb); have n1_ := Aside0.mk (Kd.R_elder' (by (with_reducible repeat (first | apply Kd.R_alloc | apply Kd.R_drewN | apply Kd.R_drew)); exact HO187.out) (Kd.R_base ho0) hb); have n2_ := Aside0.mk (Kd.R_lower (Kd.R_new' (Kd.R_new' ho0 (Kd.R_lt (by (with_reducible repeat (first | apply Kd.R_alloc | apply Kd.R_drewN | apply Kd.R_drew)); exact HO_45.out))) (Kd.R_lt (by (with_reducible repeat (first | apply Kd.R_alloc | apply Kd.R_drewN | apply Kd.R_drew)); exact HO187.out))) (below_size (by repeat (first | (with_reducible first | exact HB.out | apply below_alloc | apply pw_below_drewN | apply below_drew1 | refine below_set ?_ (IsS52.ge HI173.out)) | exact HB.out)))); have n3_ := Aside0.mk (IsS52.below (by repeat (first | (with_reducible first | exact HI173.out | apply IsS52.alloc | apply IsS52.drewN | apply IsS52.drew | apply IsS52.set_1) | exact HI173.out)) hb); have n4_ := Aside0.mk (below_step (by repeat (first | (with_reducible first | exact HB.out | apply below_alloc | apply pw_below_drewN | apply below_drew1 | refine below_set ?_ (IsS52.ge HI173.out)) | exact HB.out)) hb); clear HO_45; clear HO187; clear HI173; clear HB; have HO_45 := n0_; have HO187 := n1_; have HO191 := n2_; have HI173 := n3_; have HB := n4_; clear n0_ n1_ n2_ n3_ n4_; (try clear hb); (try clear hb2); (try clear hk); (try clear hi); (try clear ho0); obtain ⟨Ao36, co36, eo36⟩ := Kd.R_slice HO187.out; subst eo36; obtain ⟨Ao37, co37, eo37⟩ := Kd.R_slice HO191.out; subst eo37) | (go_at_call 16; (with_reducible refine (groupcontrollaw1_same.calls k2 _ _ t184 _ _ t188 true _ ?side1 ?side2 ?side3 ?side4 A29.out).mono ?_); (case side1 => repeat (first | exact (Kd.R_reads' HO187.out).2.2 | (with_reducible refine Kd.C_alloc ?_ _) | (with_reducible refine Kd.C_drewN ?_ _) | (with_reducible refine Kd.C_drew ?_))); (case side2 => exact (Kd.R_reads' HO187.out).2.1); (case side3 => repeat (first | exact (Kd.R_reads' HO191.out).2.2 | (with_reducible refine Kd.C_alloc ?_ _) | (with_reducible refine Kd.C_drewN ?_ _) | (with_reducible refine Kd.C_drew ?_))); (case side4 => exact (Kd.R_reads' HO191.out).2.1); rintro e w' ⟨rfl, ⟨nd, rfl⟩⟩) | (go_at_call 9; (with_reducible refine (name_Valid.calls (rdOf ByteArray.empty y180 x47_2) t193 _ A31.out).mono ?_); rintro e w38 ⟨rfl, hb⟩; have n0_ := Aside0.mk (Kd.R_below (by (with_reducible repeat (first | apply Kd.R_alloc | apply Kd.R_drewN | apply Kd.R_drew)); exact HO_45.out) hb); have n1_ := Aside0.mk (Kd.R_below (by (with_reducible repeat (first | apply Kd.R_alloc | apply Kd.R_drewN | apply Kd.R_drew)); exact HO187.out) hb); have n2_ := Aside0.mk (Kd.R_below (by (with_reducible repeat (first | apply Kd.R_alloc | apply Kd.R_drewN | apply Kd.R_drew)); exact HO191.out) hb); have n3_ := Aside0.mk (IsS52.below (by repeat (first | (with_reducible first | exact HI173.out | apply IsS52.alloc | apply IsS52.drewN | apply IsS52.drew | apply IsS52.set_1) | exact HI173.out)) hb); have n4_ := Aside0.mk (below_step (by repeat (first | (with_reducible first | exact HB.out | apply below_alloc | apply pw_below_drewN | apply below_drew1 | refine below_set ?_ (IsS52.ge HI173.out)) | exact HB.out)) hb); clear HO_45; clear HO187; clear HO191; clear HI173; clear HB; have HO_45 := n0_; have HO187 := n1_; have HO191 := n2_; have HI173 := n3_; have HB := n4_; clear n0_ n1_ n2_ n3_ n4_; (try clear hb); (try clear hb2); (try clear hk); (try clear hi)) | (go_at_call 17; (with_reducible refine (groupcontrolref1_Valid.calls k2 (rdOf ByteArray.empty y180 x47_2) t194 _ A32.out).mono ?_); rintro e w' ⟨rfl, ⟨nd, rfl⟩⟩))
                          go_ret
                          exact ⟨by first | rfl | (simp [errW_none, errW_some] <;> rfl) | (simp [*, errW_none, errW_some] <;> rfl), by repeat (first | (with_reducible first | exact HB.out | apply below_alloc | apply pw_below_drewN | apply below_drew1 | refine below_set ?_ (IsS52.ge HI173.out)) | exact HB.out)⟩
                        · rw [if_neg c33] at H
                          have c33b0 : (t193 != t194) = false := by simpa using c33
                          (try (have c33b1 : decide (t193 = t194) = true := by simpa using c33))
                          (try (have c33b2 : (t193 == t194) = true := by simpa using c33))
                          clear c33
                          have H' := Aside0.mk H
                          clear H
                          have p183 : 0 ≤ (x47_2 : Int) := of_decide_eq_true (by first | (with_reducible assumption) | assumption)
                          have q183 : x47_2 < (y180.length : Int) := of_decide_eq_true (by first | (with_reducible assumption) | assumption)
                          obtain ⟨ad183, e183, hx183_0⟩ := Kd.at_string (Kd.R_reads' HO_45.out).2.2 x47_2 p183 q183
                          cases e183
                          replace p183 := eq_true p183
                          replace q183 := eq_true q183
                          go_wp2_with (first | ((with_reducible refine gate_callee (f := 7) rfl ?_); refine goesL_ (some 53) rfl rfl Tryd.func7 (by kernel_rfl) rfl #[.string (rdOf ByteArray.empty y180 x47_2)] rfl (by (try simp only [List.map_toArray, List.map_cons, List.map_nil]); first | done | rfl | (simp only [List.length_drop, List.length_take]; rfl)) ?_; (with_reducible refine (name_Split.calls (rdOf ByteArray.empty y180 x47_2) t184 t185 _ A26.out).mono ?_); rintro e w39 ⟨v186, rfl, ho0, hb⟩; refine ⟨_, rfl, ?_⟩; have n0_ := Aside0.mk (Kd.R_elder' (by (with_reducible repeat (first | apply Kd.R_alloc | apply Kd.R_drewN | apply Kd.R_drew)); exact HO_45.out) (Kd.R_base ho0) hb); have n1_ := Aside0.mk (Kd.R_lower (Kd.R_new' ho0 (Kd.R_lt (by (with_reducible repeat (first | apply Kd.R_alloc | apply Kd.R_drewN | apply Kd.R_drew)); exact HO_45.out))) (below_size (by repeat (first | (with_reducible first | exact HB.out | apply below_alloc | apply pw_below_drewN | apply below_drew1 | refine below_set ?_ (IsS52.ge HI173.out)) | exact HB.out)))); have n2_ := Aside0.mk (IsS52.below (by repeat (first | (with_reducible first | exact HI173.out | apply IsS52.alloc | apply IsS52.drewN | apply IsS52.drew | apply IsS52.set_1) | exact HI173.out)) hb); have n3_ := Aside0.mk (below_step (by repeat (first | (with_reducible first | exact HB.out | apply below_alloc | apply pw_below_drewN | apply below_drew1 | refine below_set ?_ (IsS52.ge HI173.out)) | exact HB.out)) hb); clear HO_45; clear HI173; clear HB; have HO_45 := n0_; have HO187 := n1_; have HI173 := n2_; have HB := n3_; clear n0_ n1_ n2_ n3_; (try clear hb); (try clear hb2); (try clear hk); (try clear hi); (try clear ho0)) | ((with_reducible refine gate_callee (f := 15) rfl ?_); refine goesL_ (some 58) rfl rfl Tryd.func15 (by kernel_rfl) rfl #[.string (rdOf ByteArray.empty y180 x47_2)] rfl (by (try simp only [List.map_toArray, List.map_cons, List.map_nil]); first | done | rfl | (simp only [List.length_drop, List.length_take]; rfl)) ?_; (with_reducible refine (groupcontrolref1_Split.calls k2 (rdOf ByteArray.empty y180 x47_2) t188 t189 _ A27.out).mono ?_); rintro e w40 ⟨v190, rfl, ho0, hb⟩; refine ⟨_, rfl, ?_⟩; have n0_ := Aside0.mk (Kd.R_elder' (by (with_reducible repeat (first | apply Kd.R_alloc | apply Kd.R_drewN | apply Kd.R_drew)); exact HO_45.out) (Kd.R_base ho0) hb); have n1_ := Aside0.mk (Kd.R_elder' (by (with_reducible repeat (first | apply Kd.R_alloc | apply Kd.R_drewN | apply Kd.R_drew)); exact HO187.out) (Kd.R_base ho0) hb); have n2_ := Aside0.mk (Kd.R_lower (Kd.R_new' (Kd.R_new' ho0 (Kd.R_lt (by (with_reducible repeat (first | apply Kd.R_alloc | apply Kd.R_drewN | apply Kd.R_drew)); exact HO_45.out))) (Kd.R_lt (by (with_reducible repeat (first | apply Kd.R_alloc | apply Kd.R_drewN | apply Kd.R_drew)); exact HO187.out))) (below_size (by repeat (first | (with_reducible first | exact HB.out | apply below_alloc | apply pw_below_drewN | apply below_drew1 | refine below_set ?_ (IsS52.ge HI173.out)) | exact HB.out)))); have n3_ := Aside0.mk (IsS52.below (by repeat (first | (with_reducible first | exact HI173.out | apply IsS52.alloc | apply IsS52.drewN | apply IsS52.drew | apply IsS52.set_1) | exact HI173.out)) hb); have n4_ := Aside0.mk (below_step (by repeat (first | (with_reducible first | exact HB.out | apply below_alloc | apply pw_below_drewN | apply below_drew1 | refine below_set ?_ (IsS52.ge HI173.out)) | exact HB.out)) hb); clear HO_45; clear HO187; clear HI173; clear HB; have HO_45 := n0_; have HO187 := n1_; have HO191 := n2_; have HI173 := n3_; have HB := n4_; clear n0_ n1_ n2_ n3_ n4_; (try clear hb); (try clear hb2); (try clear hk); (try clear hi); (try clear ho0); obtain ⟨Ao41, co41, eo41⟩ := Kd.R_slice HO187.out; subst eo41; obtain ⟨Ao42, co42, eo42⟩ := Kd.R_slice HO191.out; subst eo42) | (go_at_call 16; (with_reducible refine (groupcontrollaw1_same.calls k2 _ _ t184 _ _ t188 true _ ?side1 ?side2 ?side3 ?side4 A29.out).mono ?_); (case side1 => repeat (first | exact (Kd.R_reads' HO187.out).2.2 | (with_reducible refine Kd.C_alloc ?_ _) | (with_reducible refine Kd.C_drewN ?_ _) | (with_reducible refine Kd.C_drew ?_))); (case side2 => exact (Kd.R_reads' HO187.out).2.1); (case side3 => repeat (first | exact (Kd.R_reads' HO191.out).2.2 | (with_reducible refine Kd.C_alloc ?_ _) | (with_reducible refine Kd.C_drewN ?_ _) | (with_reducible refine Kd.C_drew ?_))); (case side4 => exact (Kd.R_reads' HO191.out).2.1); rintro e w' ⟨rfl, ⟨nd, rfl⟩⟩) | (go_at_call 9; (with_reducible refine (name_Valid.calls (rdOf ByteArray.empty y180 x47_2) t193 _ A31.out).mono ?_); rintro e w43 ⟨rfl, hb⟩; have n0_ := Aside0.mk (Kd.R_below (by (with_reducible repeat (first | apply Kd.R_alloc | apply Kd.R_drewN | apply Kd.R_drew)); exact HO_45.out) hb); have n1_ := Aside0.mk (Kd.R_below (by (with_reducible repeat (first | apply Kd.R_alloc | apply Kd.R_drewN | apply Kd.R_drew)); exact HO187.out) hb); have n2_ := Aside0.mk (Kd.R_below (by (with_reducible repeat (first | apply Kd.R_alloc | apply Kd.R_drewN | apply Kd.R_drew)); exact HO191.out) hb); have n3_ := Aside0.mk (IsS52.below (by repeat (first | (with_reducible first | exact HI173.out | apply IsS52.alloc | apply IsS52.drewN | apply IsS52.drew | apply IsS52.set_1) | exact HI173.out)) hb); have n4_ := Aside0.mk (below_step (by repeat (first | (with_reducible first | exact HB.out | apply below_alloc | apply pw_below_drewN | apply below_drew1 | refine below_set ?_ (IsS52.ge HI173.out)) | exact HB.out)) hb); clear HO_45; clear HO187; clear HO191; clear HI173; clear HB; have HO_45 := n0_; have HO187 := n1_; have HO191 := n2_; have HI173 := n3_; have HB := n4_; clear n0_ n1_ n2_ n3_ n4_; (try clear hb); (try clear hb2); (try clear hk); (try clear hi)) | (go_at_call 17; (with_reducible refine (groupcontrolref1_Valid.calls k2 (rdOf ByteArray.empty y180 x47_2) t194 _ A32.out).mono ?_); rintro e w' ⟨rfl, ⟨nd, rfl⟩⟩))
                          go_roundg k2
                          case measure => have := HJ3.out; have := HK2.out; omega
                          case rel => exact ⟨(wrap64 (x47_2 + 1)), (by first | rfl | (simp; done) | (simp [*]; done)), H', ⟨by have := HJ3.out; have := HK2.out; omega⟩, ⟨by (with_reducible repeat (first | apply Kd.R_alloc | apply Kd.R_drewN | apply Kd.R_drew)); exact Kd.R_mono HO_45.out (fun _ hk => trivial)⟩, ⟨by repeat (first | (with_reducible first | exact HI173.out | apply IsS52.alloc | apply IsS52.drewN | apply IsS52.drew | apply IsS52.set_1) | exact HI173.out)⟩, ⟨by repeat (first | (with_reducible first | exact HB.out | apply below_alloc | apply pw_below_drewN | apply below_drew1 | refine below_set ?_ (IsS52.ge HI173.out)) | exact HB.out)⟩⟩
                      · replace c30 := Bool.eq_false_iff.mpr c30
                        subst c30
                        have H1 : (some false) = some r := by rw [if_neg (show ¬ (false = true) by decide)] at H; exact H
                        clear H
                        have H := H1
                        clear H1
                        obtain rfl := Option.some.inj H
                        have p183 : 0 ≤ (x47_2 : Int) := of_decide_eq_true (by first | (with_reducible assumption) | assumption)
                        have q183 : x47_2 < (y180.length : Int) := of_decide_eq_true (by first | (with_reducible assumption) | assumption)
                        obtain ⟨ad183, e183, hx183_0⟩ := Kd.at_string (Kd.R_reads' HO_45.out).2.2 x47_2 p183 q183
                        cases e183
                        replace p183 := eq_true p183
                        replace q183 := eq_true q183
                        go_wp2_with (first | ((with_reducible refine gate_callee (f := 7) rfl ?_); refine goesL_ (some 53) rfl rfl Tryd.func7 (by kernel_rfl) rfl #[.string (rdOf ByteArray.empty y180 x47_2)] rfl (by (try simp only [List.map_toArray, List.map_cons, List.map_nil]); first | done | rfl | (simp only [List.length_drop, List.length_take]; rfl)) ?_; (with_reducible refine (name_Split.calls (rdOf ByteArray.empty y180 x47_2) t184 t185 _ A26.out).mono ?_); rintro e w44 ⟨v186, rfl, ho0, hb⟩; refine ⟨_, rfl, ?_⟩; have n0_ := Aside0.mk (Kd.R_elder' (by (with_reducible repeat (first | apply Kd.R_alloc | apply Kd.R_drewN | apply Kd.R_drew)); exact HO_45.out) (Kd.R_base ho0) hb); have n1_ := Aside0.mk (Kd.R_lower (Kd.R_new' ho0 (Kd.R_lt (by (with_reducible repeat (first | apply Kd.R_alloc | apply Kd.R_drewN | apply Kd.R_drew)); exact HO_45.out))) (below_size (by repeat (first | (with_reducible first | exact HB.out | apply below_alloc | apply pw_below_drewN | apply below_drew1 | refine below_set ?_ (IsS52.ge HI173.out)) | exact HB.out)))); have n2_ := Aside0.mk (IsS52.below (by repeat (first | (with_reducible first | exact HI173.out | apply IsS52.alloc | apply IsS52.drewN | apply IsS52.drew | apply IsS52.set_1) | exact HI173.out)) hb); have n3_ := Aside0.mk (below_step (by repeat (first | (with_reducible first | exact HB.out | apply below_alloc | apply pw_below_drewN | apply below_drew1 | refine below_set ?_ (IsS52.ge HI173.out)) | exact HB.out)) hb); clear HO_45; clear HI173; clear HB; have HO_45 := n0_; have HO187 := n1_; have HI173 := n2_; have HB := n3_; clear n0_ n1_ n2_ n3_; (try clear hb); (try clear hb2); (try clear hk); (try clear hi); (try clear ho0)) | ((with_reducible refine gate_callee (f := 15) rfl ?_); refine goesL_ (some 58) rfl rfl Tryd.func15 (by kernel_rfl) rfl #[.string (rdOf ByteArray.empty y180 x47_2)] rfl (by (try simp only [List.map_toArray, List.map_cons, List.map_nil]); first | done | rfl | (simp only [List.length_drop, List.length_take]; rfl)) ?_; (with_reducible refine (groupcontrolref1_Split.calls k2 (rdOf ByteArray.empty y180 x47_2) t188 t189 _ A27.out).mono ?_); rintro e w45 ⟨v190, rfl, ho0, hb⟩; refine ⟨_, rfl, ?_⟩; have n0_ := Aside0.mk (Kd.R_elder' (by (with_reducible repeat (first | apply Kd.R_alloc | apply Kd.R_drewN | apply Kd.R_drew)); exact HO_45.out) (Kd.R_base ho0) hb); have n1_ := Aside0.mk (Kd.R_elder' (by (with_reducible repeat (first | apply Kd.R_alloc | apply Kd.R_drewN | apply Kd.R_drew)); exact HO187.out) (Kd.R_base ho0) hb); have n2_ := Aside0.mk (Kd.R_lower (Kd.R_new' (Kd.R_new' ho0 (Kd.R_lt (by (with_reducible repeat (first | apply Kd.R_alloc | apply Kd.R_drewN | apply Kd.R_drew)); exact HO_45.out))) (Kd.R_lt (by (with_reducible repeat (first | apply Kd.R_alloc | apply Kd.R_drewN | apply Kd.R_drew)); exact HO187.out))) (below_size (by repeat (first | (with_reducible first | exact HB.out | apply below_alloc | apply pw_below_drewN | apply below_drew1 | refine below_set ?_ (IsS52.ge HI173.out)) | exact HB.out)))); have n3_ := Aside0.mk (IsS52.below (by repeat (first | (with_reducible first | exact HI173.out | apply IsS52.alloc | apply IsS52.drewN | apply IsS52.drew | apply IsS52.set_1) | exact HI173.out)) hb); have n4_ := Aside0.mk (below_step (by repeat (first | (with_reducible first | exact HB.out | apply below_alloc | apply pw_below_drewN | apply below_drew1 | refine below_set ?_ (IsS52.ge HI173.out)) | exact HB.out)) hb); clear HO_45; clear HO187; clear HI173; clear HB; have HO_45 := n0_; have HO187 := n1_; have HO191 := n2_; have HI173 := n3_; have HB := n4_; clear n0_ n1_ n2_ n3_ n4_; (try clear hb); (try clear hb2); (try clear hk); (try clear hi); (try clear ho0); obtain ⟨Ao46, co46, eo46⟩ := Kd.R_slice HO187.out; subst eo46; obtain ⟨Ao47, co47, eo47⟩ := Kd.R_slice HO191.out; subst eo47) | (go_at_call 16; (with_reducible refine (groupcontrollaw1_same.calls k2 _ _ t184 _ _ t188 false _ ?side1 ?side2 ?side3 ?side4 A29.out).mono ?_); (case side1 => repeat (first | exact (Kd.R_reads' HO187.out).2.2 | (with_reducible refine Kd.C_alloc ?_ _) | (with_reducible refine Kd.C_drewN ?_ _) | (with_reducible refine Kd.C_drew ?_))); (case side2 => exact (Kd.R_reads' HO187.out).2.1); (case side3 => repeat (first | exact (Kd.R_reads' HO191.out).2.2 | (with_reducible refine Kd.C_alloc ?_ _) | (with_reducible refine Kd.C_drewN ?_ _) | (with_reducible refine Kd.C_drew ?_))); (case side4 => exact (Kd.R_reads' HO191.out).2.1); rintro e w' ⟨rfl, ⟨nd, rfl⟩⟩))
                        go_ret
                        exact ⟨by first | rfl | (simp [errW_none, errW_some] <;> rfl) | (simp [*, errW_none, errW_some] <;> rfl), by repeat (first | (with_reducible first | exact HB.out | apply below_alloc | apply pw_below_drewN | apply below_drew1 | refine below_set ?_ (IsS52.ge HI173.out)) | exact HB.out)⟩
                    · rw [if_neg c28] at H
                      have c28b0 : (t185 == t189) = false := beq_eq_false_iff_ne.mpr c28
                      have c28b1 : (t185 != t189) = true := bne_iff_ne.mpr c28
                      obtain rfl := Option.some.inj H
                      have p183 : 0 ≤ (x47_2 : Int) := of_decide_eq_true (by first | (with_reducible assumption) | assumption)
                      have q183 : x47_2 < (y180.length : Int) := of_decide_eq_true (by first | (with_reducible assumption) | assumption)
                      obtain ⟨ad183, e183, hx183_0⟩ := Kd.at_string (Kd.R_reads' HO_45.out).2.2 x47_2 p183 q183
                      cases e183
                      replace p183 := eq_true p183
                      replace q183 := eq_true q183
                      go_wp2_with (first | ((with_reducible refine gate_callee (f := 7) rfl ?_); refine goesL_ (some 53) rfl rfl Tryd.func7 (by kernel_rfl) rfl #[.string (rdOf ByteArray.empty y180 x47_2)] rfl (by (try simp only [List.map_toArray, List.map_cons, List.map_nil]); first | done | rfl | (simp only [List.length_drop, List.length_take]; rfl)) ?_; (with_reducible refine (name_Split.calls (rdOf ByteArray.empty y180 x47_2) t184 t185 _ A26.out).mono ?_); rintro e w48 ⟨v186, rfl, ho0, hb⟩; refine ⟨_, rfl, ?_⟩; have n0_ := Aside0.mk (Kd.R_elder' (by (with_reducible repeat (first | apply Kd.R_alloc | apply Kd.R_drewN | apply Kd.R_drew)); exact HO_45.out) (Kd.R_base ho0) hb); have n1_ := Aside0.mk (Kd.R_lower (Kd.R_new' ho0 (Kd.R_lt (by (with_reducible repeat (first | apply Kd.R_alloc | apply Kd.R_drewN | apply Kd.R_drew)); exact HO_45.out))) (below_size (by repeat (first | (with_reducible first | exact HB.out | apply below_alloc | apply pw_below_drewN | apply below_drew1 | refine below_set ?_ (IsS52.ge HI173.out)) | exact HB.out)))); have n2_ := Aside0.mk (IsS52.below (by repeat (first | (with_reducible first | exact HI173.out | apply IsS52.alloc | apply IsS52.drewN | apply IsS52.drew | apply IsS52.set_1) | exact HI173.out)) hb); have n3_ := Aside0.mk (below_step (by repeat (first | (with_reducible first | exact HB.out | apply below_alloc | apply pw_below_drewN | apply below_drew1 | refine below_set ?_ (IsS52.ge HI173.out)) | exact HB.out)) hb); clear HO_45; clear HI173; clear HB; have HO_45 := n0_; have HO187 := n1_; have HI173 := n2_; have HB := n3_; clear n0_ n1_ n2_ n3_; (try clear hb); (try clear hb2); (try clear hk); (try clear hi); (try clear ho0)) | ((with_reducible refine gate_callee (f := 15) rfl ?_); refine goesL_ (some 58) rfl rfl Tryd.func15 (by kernel_rfl) rfl #[.string (rdOf ByteArray.empty y180 x47_2)] rfl (by (try simp only [List.map_toArray, List.map_cons, List.map_nil]); first | done | rfl | (simp only [List.length_drop, List.length_take]; rfl)) ?_; (with_reducible refine (groupcontrolref1_Split.calls k2 (rdOf ByteArray.empty y180 x47_2) t188 t189 _ A27.out).mono ?_); rintro e w49 ⟨v190, rfl, ho0, hb⟩; refine ⟨_, rfl, ?_⟩; have n0_ := Aside0.mk (Kd.R_elder' (by (with_reducible repeat (first | apply Kd.R_alloc | apply Kd.R_drewN | apply Kd.R_drew)); exact HO_45.out) (Kd.R_base ho0) hb); have n1_ := Aside0.mk (Kd.R_elder' (by (with_reducible repeat (first | apply Kd.R_alloc | apply Kd.R_drewN | apply Kd.R_drew)); exact HO187.out) (Kd.R_base ho0) hb); have n2_ := Aside0.mk (Kd.R_lower (Kd.R_new' (Kd.R_new' ho0 (Kd.R_lt (by (with_reducible repeat (first | apply Kd.R_alloc | apply Kd.R_drewN | apply Kd.R_drew)); exact HO_45.out))) (Kd.R_lt (by (with_reducible repeat (first | apply Kd.R_alloc | apply Kd.R_drewN | apply Kd.R_drew)); exact HO187.out))) (below_size (by repeat (first | (with_reducible first | exact HB.out | apply below_alloc | apply pw_below_drewN | apply below_drew1 | refine below_set ?_ (IsS52.ge HI173.out)) | exact HB.out)))); have n3_ := Aside0.mk (IsS52.below (by repeat (first | (with_reducible first | exact HI173.out | apply IsS52.alloc | apply IsS52.drewN | apply IsS52.drew | apply IsS52.set_1) | exact HI173.out)) hb); have n4_ := Aside0.mk (below_step (by repeat (first | (with_reducible first | exact HB.out | apply below_alloc | apply pw_below_drewN | apply below_drew1 | refine below_set ?_ (IsS52.ge HI173.out)) | exact HB.out)) hb); clear HO_45; clear HO187; clear HI173; clear HB; have HO_45 := n0_; have HO187 := n1_; have HO191 := n2_; have HI173 := n3_; have HB := n4_; clear n0_ n1_ n2_ n3_ n4_; (try clear hb); (try clear hb2); (try clear hk); (try clear hi); (try clear ho0)))
                      go_ret
                      exact ⟨by first | rfl | (simp [errW_none, errW_some] <;> rfl) | (simp [*, errW_none, errW_some] <;> rfl), by repeat (first | (with_reducible first | exact HB.out | apply below_alloc | apply pw_below_drewN | apply below_drew1 | refine below_set ?_ (IsS52.ge HI173.out)) | exact HB.out)⟩
                  · rw [if_neg c25] at H
                    exact absurd H (by simp)
                · rw [if_neg c24] at H
                  exact absurd H (by simp)
              · rw [if_neg c23] at H
                have c23b0 : decide (x47_2 < (y180.length : Int)) = false := decide_eq_false c23
                clear c23
                replace H := Option.bind_eq_some_iff.mp H
                obtain ⟨⟨t195, t196⟩, A500, H⟩ := H
                replace H : ((groupcontrolmade_Dice_Name.f k2 t171 t196).bind fun bt197 => ((groupcontrolmade_Dice_Next.f k2 t171 bt197.2 10).bind fun bt205 => (if 0 ≤ bt205.1 then (if bt205.1 ≤ ((([(⟨#[97]⟩ : ByteArray), (⟨#[98]⟩ : ByteArray), (⟨#[99]⟩ : ByteArray), (⟨#[100]⟩ : ByteArray), (⟨#[101]⟩ : ByteArray), (⟨#[102]⟩ : ByteArray), (⟨#[103]⟩ : ByteArray), (⟨#[104]⟩ : ByteArray), (⟨#[105]⟩ : ByteArray)] : List ByteArray)).length : Int) then ((some (([l1, (([t195, bt197.1] : List ByteArray)), ([(⟨#[97]⟩ : ByteArray), (⟨#[98]⟩ : ByteArray), (⟨#[99]⟩ : ByteArray), (⟨#[100]⟩ : ByteArray), (⟨#[101]⟩ : ByteArray), (⟨#[102]⟩ : ByteArray), (⟨#[103]⟩ : ByteArray), (⟨#[104]⟩ : ByteArray), (⟨#[105]⟩ : ByteArray)] : List ByteArray).take (bt205.1 : Int).toNat] : List (List ByteArray)) : List (List ByteArray))).bind fun y212 => (groupcontrollaw1_NamePaths.l1 k2 y212 (y212.length : Int) 0)) else (none)) else (none)))) = some r := H
                have A50 := Aside0.mk A500
                clear A500
                replace H := Option.bind_eq_some_iff.mp H
                obtain ⟨⟨t197, t198⟩, A510, H⟩ := H
                replace H : ((groupcontrolmade_Dice_Next.f k2 t171 t198 10).bind fun bt205 => (if 0 ≤ bt205.1 then (if bt205.1 ≤ ((([(⟨#[97]⟩ : ByteArray), (⟨#[98]⟩ : ByteArray), (⟨#[99]⟩ : ByteArray), (⟨#[100]⟩ : ByteArray), (⟨#[101]⟩ : ByteArray), (⟨#[102]⟩ : ByteArray), (⟨#[103]⟩ : ByteArray), (⟨#[104]⟩ : ByteArray), (⟨#[105]⟩ : ByteArray)] : List ByteArray)).length : Int) then ((some (([l1, (([t195, t197] : List ByteArray)), ([(⟨#[97]⟩ : ByteArray), (⟨#[98]⟩ : ByteArray), (⟨#[99]⟩ : ByteArray), (⟨#[100]⟩ : ByteArray), (⟨#[101]⟩ : ByteArray), (⟨#[102]⟩ : ByteArray), (⟨#[103]⟩ : ByteArray), (⟨#[104]⟩ : ByteArray), (⟨#[105]⟩ : ByteArray)] : List ByteArray).take (bt205.1 : Int).toNat] : List (List ByteArray)) : List (List ByteArray))).bind fun y212 => (groupcontrollaw1_NamePaths.l1 k2 y212 (y212.length : Int) 0)) else (none)) else (none))) = some r := H
                have A51 := Aside0.mk A510
                clear A510
                obtain ⟨y199, hy199⟩ : ∃ y_ : List ByteArray, y_ = (([t195, t197] : List ByteArray)) := ⟨_, rfl⟩
                replace H : ((groupcontrolmade_Dice_Next.f k2 t171 t198 10).bind fun bt205 => (if 0 ≤ bt205.1 then (if bt205.1 ≤ ((([(⟨#[97]⟩ : ByteArray), (⟨#[98]⟩ : ByteArray), (⟨#[99]⟩ : ByteArray), (⟨#[100]⟩ : ByteArray), (⟨#[101]⟩ : ByteArray), (⟨#[102]⟩ : ByteArray), (⟨#[103]⟩ : ByteArray), (⟨#[104]⟩ : ByteArray), (⟨#[105]⟩ : ByteArray)] : List ByteArray)).length : Int) then ((some (([l1, y199, ([(⟨#[97]⟩ : ByteArray), (⟨#[98]⟩ : ByteArray), (⟨#[99]⟩ : ByteArray), (⟨#[100]⟩ : ByteArray), (⟨#[101]⟩ : ByteArray), (⟨#[102]⟩ : ByteArray), (⟨#[103]⟩ : ByteArray), (⟨#[104]⟩ : ByteArray), (⟨#[105]⟩ : ByteArray)] : List ByteArray).take (bt205.1 : Int).toNat] : List (List ByteArray)) : List (List ByteArray))).bind fun y212 => (groupcontrollaw1_NamePaths.l1 k2 y212 (y212.length : Int) 0)) else (none)) else (none))) = some r := by first | (rw [hy199]; with_reducible exact H) | (have H2_ := (Option.bind_some _ _).symm.trans H; rw [hy199]; with_reducible exact H2_) | (have H2_ := (Option.bind_some _ _).symm.trans H; with_reducible exact H2_) | with_reducible exact H | (rw [hy199]; exact H) | exact H
                have Ny199 := Aside0.mk hy199
                clear hy199
                obtain ⟨y202, hy202⟩ : ∃ y_ : List ByteArray, y_ = (([(⟨#[97]⟩ : ByteArray), (⟨#[98]⟩ : ByteArray), (⟨#[99]⟩ : ByteArray), (⟨#[100]⟩ : ByteArray), (⟨#[101]⟩ : ByteArray), (⟨#[102]⟩ : ByteArray), (⟨#[103]⟩ : ByteArray), (⟨#[104]⟩ : ByteArray), (⟨#[105]⟩ : ByteArray)] : List ByteArray)) := ⟨_, rfl⟩
                replace H : ((groupcontrolmade_Dice_Next.f k2 t171 t198 10).bind fun bt205 => (if 0 ≤ bt205.1 then (if bt205.1 ≤ (y202.length : Int) then ((some (([l1, y199, y202.take (bt205.1 : Int).toNat] : List (List ByteArray)) : List (List ByteArray))).bind fun y212 => (groupcontrollaw1_NamePaths.l1 k2 y212 (y212.length : Int) 0)) else (none)) else (none))) = some r := by first | (rw [hy202]; with_reducible exact H) | (have H2_ := (Option.bind_some _ _).symm.trans H; rw [hy202]; with_reducible exact H2_) | (have H2_ := (Option.bind_some _ _).symm.trans H; with_reducible exact H2_) | with_reducible exact H | (rw [hy202]; exact H) | exact H
                have Ny202 := Aside0.mk hy202
                clear hy202
                replace H := Option.bind_eq_some_iff.mp H
                obtain ⟨⟨t205, t206⟩, A520, H⟩ := H
                replace H : (if 0 ≤ t205 then (if t205 ≤ (y202.length : Int) then ((some (([l1, y199, y202.take (t205 : Int).toNat] : List (List ByteArray)) : List (List ByteArray))).bind fun y212 => (groupcontrollaw1_NamePaths.l1 k2 y212 (y212.length : Int) 0)) else (none)) else (none)) = some r := H
                have A52 := Aside0.mk A520
                clear A520
                by_cases c53 : 0 ≤ t205
                · rw [if_pos c53] at H
                  have c53b0 := eq_true c53
                  have c53b1 : decide (0 ≤ t205) = true := decide_eq_true c53
                  clear c53
                  by_cases c54 : t205 ≤ (y202.length : Int)
                  · rw [if_pos c54] at H
                    have c54b0 := eq_true c54
                    have c54b1 : decide (t205 ≤ (y202.length : Int)) = true := decide_eq_true c54
                    clear c54
                    obtain ⟨y207, hy207⟩ : ∃ y_ : List ByteArray, y_ = (y202.take (t205 : Int).toNat) := ⟨_, rfl⟩
                    replace H : ((some (([l1, y199, y207] : List (List ByteArray)) : List (List ByteArray))).bind fun y212 => (groupcontrollaw1_NamePaths.l1 k2 y212 (y212.length : Int) 0)) = some r := by first | (rw [hy207]; with_reducible exact H) | (have H2_ := (Option.bind_some _ _).symm.trans H; rw [hy207]; with_reducible exact H2_) | (have H2_ := (Option.bind_some _ _).symm.trans H; with_reducible exact H2_) | with_reducible exact H | (rw [hy207]; exact H) | exact H
                    have Ny207 := Aside0.mk hy207
                    clear hy207
                    obtain ⟨y212, hy212⟩ : ∃ y_ : List (List ByteArray), y_ = (([l1, y199, y207] : List (List ByteArray))) := ⟨_, rfl⟩
                    replace H : (groupcontrollaw1_NamePaths.l1 k2 y212 (y212.length : Int) 0) = some r := by first | (rw [hy212]; with_reducible exact H) | (have H2_ := (Option.bind_some _ _).symm.trans H; rw [hy212]; with_reducible exact H2_) | (have H2_ := (Option.bind_some _ _).symm.trans H; with_reducible exact H2_) | with_reducible exact H | (rw [hy212]; exact H) | exact H
                    have Ny212 := Aside0.mk hy212
                    clear hy212
                    have H' := Aside0.mk H
                    clear H
                    go_wp2_with (first | ((with_reducible refine gate_callee (f := 14) rfl ?_); refine goesL_ (some 80) rfl rfl Tryd.func14 (by kernel_rfl) rfl #[.pointer (some ⟨g173, 0, none⟩)] rfl (by (try simp only [List.map_toArray, List.map_cons, List.map_nil]); first | done | rfl | (simp only [List.length_drop, List.length_take]; rfl)) ?_; (with_reducible refine (groupcontrolmade_Dice_Word.calls k2 g173 t171 t179 t195 t196 w _ ?side1 ?side2 A50.out).mono ?_); (case side1 => repeat (first | (with_reducible first | exact HI173.out | apply IsS52.alloc | apply IsS52.drewN | apply IsS52.drew | apply IsS52.set_1) | exact HI173.out)); (case side2 => repeat (first | (with_reducible first | exact HB.out | apply below_alloc | apply pw_below_drewN | apply below_drew1 | refine below_set ?_ (IsS52.ge HI173.out)) | exact HB.out)); rintro e w55 ⟨rfl, hi, hb, hk⟩; refine ⟨_, rfl, ?_⟩; have n0_ := Aside0.mk (Kd.R_mono (Kd.R_keep (IsS52.apart (show IsS52 w _ g173 t171 t179 from by repeat (first | (with_reducible first | exact HI173.out | apply IsS52.alloc | apply IsS52.drewN | apply IsS52.drew | apply IsS52.set_1) | exact HI173.out)) (by (with_reducible repeat (first | apply Kd.R_alloc | apply Kd.R_drewN | apply Kd.R_drew)); exact HO_45.out) (by decide)) hk (fun _ h => h.2)) (fun _ h => h.1)); have n1_ := Aside0.mk (hb); have n2_ := Aside0.mk (hi); clear HO_45; clear HB; clear HI173; have HO_45 := n0_; have HB := n1_; have HI173 := n2_; clear n0_ n1_ n2_; (try clear hb); (try clear hb2); (try clear hk); (try clear hi)) | ((with_reducible refine gate_callee (f := 18) rfl ?_); refine goesL_ (some 82) rfl rfl Tryd.func18 (by kernel_rfl) rfl #[.pointer (some ⟨g173, 0, none⟩)] rfl (by (try simp only [List.map_toArray, List.map_cons, List.map_nil]); first | done | rfl | (simp only [List.length_drop, List.length_take]; rfl)) ?_; (with_reducible refine (groupcontrolmade_Dice_Name.calls k2 g173 t171 t196 t197 t198 w _ ?side1 ?side2 A51.out).mono ?_); (case side1 => repeat (first | (with_reducible first | exact HI173.out | apply IsS52.alloc | apply IsS52.drewN | apply IsS52.drew | apply IsS52.set_1) | exact HI173.out)); (case side2 => repeat (first | (with_reducible first | exact HB.out | apply below_alloc | apply pw_below_drewN | apply below_drew1 | refine below_set ?_ (IsS52.ge HI173.out)) | exact HB.out)); rintro e w56 ⟨rfl, hi, hb, hk⟩; refine ⟨_, rfl, ?_⟩; have n0_ := Aside0.mk (Kd.R_mono (Kd.R_keep (IsS52.apart (show IsS52 w _ g173 t171 t196 from by repeat (first | (with_reducible first | exact HI173.out | apply IsS52.alloc | apply IsS52.drewN | apply IsS52.drew | apply IsS52.set_1) | exact HI173.out)) (by (with_reducible repeat (first | apply Kd.R_alloc | apply Kd.R_drewN | apply Kd.R_drew)); exact HO_45.out) (by decide)) hk (fun _ h => h.2)) (fun _ h => h.1)); have n1_ := Aside0.mk (hb); have n2_ := Aside0.mk (hi); clear HO_45; clear HB; clear HI173; have HO_45 := n0_; have HB := n1_; have HI173 := n2_; clear n0_ n1_ n2_; (try clear hb); (try clear hb2); (try clear hk); (try clear hi)) | ((with_reducible refine gate_dst (N := 83) rfl ?_); (try (refine gate_guard (by rfl) ?_; dsimp only)); refine Kd.R_lit Kd.string _ 9 ?hg (N := 83) ?hd (xs := ([t195, t197] : List ByteArray)) (inner := [.string t195, .string t197]) (ok := fun _ => True) (okp := fun _ => True) ?hr ?hp (fun _ hk => hk) trivial (Below.refl _ _) (Nat.le_refl _) (by simp) ?_; (case hd => rfl); (case hg => rfl); (case hr => first | (go_simp; done) | (go_simp; rfl)); (case hp => exact (Reps.one (show Kd.M Kd.string _ _ _ t195 [.string t195] from rfl) (Reps.one (show Kd.M Kd.string _ _ _ t197 [.string t197] from rfl) (Reps.none _ _)))); intro v200 w57 ho58 hb hg_ hnew_; clear hg_ hnew_; (first | rw [← Ny199.out] at ho58 | (simp only [Int.reduceToNat] at ho58; rw [← Ny199.out] at ho58)); have n0_ := Aside0.mk (Kd.R_elder' (by (with_reducible repeat (first | apply Kd.R_alloc | apply Kd.R_drewN | apply Kd.R_drew)); exact HO_45.out) (Kd.R_base ho58) hb); have n1_ := Aside0.mk (Kd.R_lower (Kd.R_new' ho58 (Kd.R_lt (by (with_reducible repeat (first | apply Kd.R_alloc | apply Kd.R_drewN | apply Kd.R_drew)); exact HO_45.out))) (below_size (by repeat (first | (with_reducible first | exact HB.out | apply below_alloc | apply pw_below_drewN | apply below_drew1 | refine below_set ?_ (IsS52.ge HI173.out)) | exact HB.out)))); have n2_ := Aside0.mk (IsS52.below (by repeat (first | (with_reducible first | exact HI173.out | apply IsS52.alloc | apply IsS52.drewN | apply IsS52.drew | apply IsS52.set_1) | exact HI173.out)) hb); have n3_ := Aside0.mk (below_step (by repeat (first | (with_reducible first | exact HB.out | apply below_alloc | apply pw_below_drewN | apply below_drew1 | refine below_set ?_ (IsS52.ge HI173.out)) | exact HB.out)) hb); clear HO_45; clear HI173; clear HB; have HO_45 := n0_; have HO201 := n1_; have HI173 := n2_; have HB := n3_; clear n0_ n1_ n2_ n3_; clear hb ho58) | ((with_reducible refine gate_dst (N := 84) rfl ?_); (try (refine gate_guard (by rfl) ?_; dsimp only)); refine Kd.R_lit Kd.string _ 9 ?hg (N := 84) ?hd (xs := ([(⟨#[97]⟩ : ByteArray), (⟨#[98]⟩ : ByteArray), (⟨#[99]⟩ : ByteArray), (⟨#[100]⟩ : ByteArray), (⟨#[101]⟩ : ByteArray), (⟨#[102]⟩ : ByteArray), (⟨#[103]⟩ : ByteArray), (⟨#[104]⟩ : ByteArray), (⟨#[105]⟩ : ByteArray)] : List ByteArray)) (inner := [.string (⟨#[97]⟩ : ByteArray), .string (⟨#[98]⟩ : ByteArray), .string (⟨#[99]⟩ : ByteArray), .string (⟨#[100]⟩ : ByteArray), .string (⟨#[101]⟩ : ByteArray), .string (⟨#[102]⟩ : ByteArray), .string (⟨#[103]⟩ : ByteArray), .string (⟨#[104]⟩ : ByteArray), .string (⟨#[105]⟩ : ByteArray)]) (ok := fun _ => True) (okp := fun _ => True) ?hr ?hp (fun _ hk => hk) trivial (Below.refl _ _) (Nat.le_refl _) (by simp) ?_; (case hd => rfl); (case hg => rfl); (case hr => first | (go_simp; done) | (go_simp; rfl)); (case hp => exact (Reps.one (show Kd.M Kd.string _ _ _ (⟨#[97]⟩ : ByteArray) [.string (⟨#[97]⟩ : ByteArray)] from rfl) (Reps.one (show Kd.M Kd.string _ _ _ (⟨#[98]⟩ : ByteArray) [.string (⟨#[98]⟩ : ByteArray)] from rfl) (Reps.one (show Kd.M Kd.string _ _ _ (⟨#[99]⟩ : ByteArray) [.string (⟨#[99]⟩ : ByteArray)] from rfl) (Reps.one (show Kd.M Kd.string _ _ _ (⟨#[100]⟩ : ByteArray) [.string (⟨#[100]⟩ : ByteArray)] from rfl) (Reps.one (show Kd.M Kd.string _ _ _ (⟨#[101]⟩ : ByteArray) [.string (⟨#[101]⟩ : ByteArray)] from rfl) (Reps.one (show Kd.M Kd.string _ _ _ (⟨#[102]⟩ : ByteArray) [.string (⟨#[102]⟩ : ByteArray)] from rfl) (Reps.one (show Kd.M Kd.string _ _ _ (⟨#[103]⟩ : ByteArray) [.string (⟨#[103]⟩ : ByteArray)] from rfl) (Reps.one (show Kd.M Kd.string _ _ _ (⟨#[104]⟩ : ByteArray) [.string (⟨#[104]⟩ : ByteArray)] from rfl) (Reps.one (show Kd.M Kd.string _ _ _ (⟨#[105]⟩ : ByteArray) [.string (⟨#[105]⟩ : ByteArray)] from rfl) (Reps.none _ _))))))))))); intro v203 w59 ho60 hb hg_ hnew_; clear hg_ hnew_; (first | rw [← Ny202.out] at ho60 | (simp only [Int.reduceToNat] at ho60; rw [← Ny202.out] at ho60)); have n0_ := Aside0.mk (Kd.R_elder' (by (with_reducible repeat (first | apply Kd.R_alloc | apply Kd.R_drewN | apply Kd.R_drew)); exact HO_45.out) (Kd.R_base ho60) hb); have n1_ := Aside0.mk (Kd.R_elder' (by (with_reducible repeat (first | apply Kd.R_alloc | apply Kd.R_drewN | apply Kd.R_drew)); exact HO201.out) (Kd.R_base ho60) hb); have n2_ := Aside0.mk (Kd.R_lower (Kd.R_new' (Kd.R_new' ho60 (Kd.R_lt (by (with_reducible repeat (first | apply Kd.R_alloc | apply Kd.R_drewN | apply Kd.R_drew)); exact HO_45.out))) (Kd.R_lt (by (with_reducible repeat (first | apply Kd.R_alloc | apply Kd.R_drewN | apply Kd.R_drew)); exact HO201.out))) (below_size (by repeat (first | (with_reducible first | exact HB.out | apply below_alloc | apply pw_below_drewN | apply below_drew1 | refine below_set ?_ (IsS52.ge HI173.out)) | exact HB.out)))); have n3_ := Aside0.mk (IsS52.below (by repeat (first | (with_reducible first | exact HI173.out | apply IsS52.alloc | apply IsS52.drewN | apply IsS52.drew | apply IsS52.set_1) | exact HI173.out)) hb); have n4_ := Aside0.mk (below_step (by repeat (first | (with_reducible first | exact HB.out | apply below_alloc | apply pw_below_drewN | apply below_drew1 | refine below_set ?_ (IsS52.ge HI173.out)) | exact HB.out)) hb); clear HO_45; clear HO201; clear HI173; clear HB; have HO_45 := n0_; have HO201 := n1_; have HO204 := n2_; have HI173 := n3_; have HB := n4_; clear n0_ n1_ n2_ n3_ n4_; clear hb ho60) | ((with_reducible refine gate_callee (f := 19) rfl ?_); refine goesL_ (some 86) rfl rfl Tryd.func19 (by kernel_rfl) rfl #[.pointer (some ⟨g173, 0, none⟩), .int .i64 10] rfl (by (try simp only [List.map_toArray, List.map_cons, List.map_nil]); first | done | rfl | (simp only [List.length_drop, List.length_take]; rfl)) ?_; (with_reducible refine (groupcontrolmade_Dice_Next.calls k2 g173 t171 t198 10 t205 t206 w _ ?side1 ?side2 A52.out).mono ?_); (case side1 => repeat (first | (with_reducible first | exact HI173.out | apply IsS52.alloc | apply IsS52.drewN | apply IsS52.drew | apply IsS52.set_1) | exact HI173.out)); (case side2 => repeat (first | (with_reducible first | exact HB.out | apply below_alloc | apply pw_below_drewN | apply below_drew1 | refine below_set ?_ (IsS52.ge HI173.out)) | exact HB.out)); rintro e w61 ⟨rfl, hi, hb, hk⟩; refine ⟨_, rfl, ?_⟩; have n0_ := Aside0.mk (Kd.R_mono (Kd.R_keep (IsS52.apart (show IsS52 w _ g173 t171 t198 from by repeat (first | (with_reducible first | exact HI173.out | apply IsS52.alloc | apply IsS52.drewN | apply IsS52.drew | apply IsS52.set_1) | exact HI173.out)) (by (with_reducible repeat (first | apply Kd.R_alloc | apply Kd.R_drewN | apply Kd.R_drew)); exact HO_45.out) (by decide)) hk (fun _ h => h.2)) (fun _ h => h.1)); have n1_ := Aside0.mk (Kd.R_mono (Kd.R_keep (IsS52.apart (show IsS52 w _ g173 t171 t198 from by repeat (first | (with_reducible first | exact HI173.out | apply IsS52.alloc | apply IsS52.drewN | apply IsS52.drew | apply IsS52.set_1) | exact HI173.out)) (by (with_reducible repeat (first | apply Kd.R_alloc | apply Kd.R_drewN | apply Kd.R_drew)); exact HO201.out) (by decide)) hk (fun _ h => h.2)) (fun _ h => h.1)); have n2_ := Aside0.mk (Kd.R_mono (Kd.R_keep (IsS52.apart (show IsS52 w _ g173 t171 t198 from by repeat (first | (with_reducible first | exact HI173.out | apply IsS52.alloc | apply IsS52.drewN | apply IsS52.drew | apply IsS52.set_1) | exact HI173.out)) (by (with_reducible repeat (first | apply Kd.R_alloc | apply Kd.R_drewN | apply Kd.R_drew)); exact HO204.out) (by decide)) hk (fun _ h => h.2)) (fun _ h => h.1)); have n3_ := Aside0.mk (hb); have n4_ := Aside0.mk (hi); clear HO_45; clear HO201; clear HO204; clear HB; clear HI173; have HO_45 := n0_; have HO201 := n1_; have HO204 := n2_; have HB := n3_; have HI173 := n4_; clear n0_ n1_ n2_ n3_ n4_; (try clear hb); (try clear hb2); (try clear hk); (try clear hi); obtain ⟨Ao63, co63, eo63⟩ := Kd.R_slice HO204.out; subst eo63; have q62 : (t205 : Int) ≤ ((y202.length : Int) : Int) := of_decide_eq_true (by first | (with_reducible assumption) | assumption); obtain ⟨i062, hi062, _, hsz62, _⟩ := info_parts info9; have hroom62 : y202.length ≤ co63 := (Kd.R_reads' HO204.out).2.1; have hC62 : Kd.F Kd.string _ _ Ao63 y202.length y202 := (Kd.V_at (base := w.heap.size) (Kd.R_V (IsS52.apart HI173.out (HO204.out) (by decide)))).2.2; have hcut62 := cut_to (P := Tryd.prog) 22 9 .i64 Tryd.underlying22 hi062 Ao63 y202.length co63 t205 (of_decide_eq_true (by first | (with_reducible assumption) | assumption)) q62 hroom62; have hr62 := Kd.F_take (m := (t205 : Int).toNat) hC62 (by omega); have hy62 : y207.length = (t205 : Int).toNat := (by rw [Ny207.out, List.length_take]; omega); rw [← Ny207.out] at hr62; rw [← hy62] at hcut62; have HO211 := Aside0.mk (show Kd.V Kd.string 9 _ w.heap.size _ (.slice Ao63 y207.length co63) y207 from Kd.V_mk (by omega) hr62); have HC211 := Aside0.mk (show y207.length ≤ co63 from by omega); clear hr62 hC62 hroom62 hi062 hsz62; have KY62 := Aside0.mk hy62; clear hy62; replace q62 := eq_true q62; obtain ⟨Ao64, co64, eo64⟩ := Kd.R_slice HO201.out; subst eo64) | ((with_reducible refine gate_dst (N := 88) rfl ?_); (try (refine gate_guard (by rfl) ?_; dsimp only)); refine Kd.N_lit (Kd.slice 9 Kd.string) _ 22 ?hg (N' := 88) ?hd (xs := ([l1, y199, y207] : List (List ByteArray))) (inner := [.slice A1 l1.length c1, .slice Ao64 y199.length co64, .slice Ao63 y207.length co63]) (ok := fun _ => True) (okp := fun _ => True) ?hr ?hp (fun _ hk => hk) trivial (Below.refl _ _) (Nat.le_refl _) (by simp) ?_; (case hd => rfl); (case hg => rfl); (case hr => first | (go_simp; done) | (go_simp; rfl)); (case hp => exact (Reps.one (show Kd.FK (Kd.slice 9 Kd.string) _ _ l1 [.slice A1 l1.length c1] from Kd.FK_slice_mk HC1.out (Kd.F_mono (Kd.C_F Kd.heap_string (Kd.C_below HR1.out (by repeat (first | (with_reducible first | exact HB.out | apply below_alloc | apply pw_below_drewN | apply below_drew1 | refine below_set ?_ (IsS52.ge HI173.out)) | exact HB.out)))) (fun _ _ => trivial))) (Reps.one (show Kd.FK (Kd.slice 9 Kd.string) _ _ y199 [.slice Ao64 y199.length co64] from Kd.FK_slice_mk (Kd.R_reads' HO201.out).2.1 (Kd.F_mono (Kd.R_F HO201.out) (fun _ _ => trivial))) (Reps.one (show Kd.FK (Kd.slice 9 Kd.string) _ _ y207 [.slice Ao63 y207.length co63] from Kd.FK_slice_mk (by obtain ⟨_, _, e_, h_, _⟩ := HO211.out; cases e_; exact h_) (Kd.F_mono (Kd.V_F HO211.out) (fun _ _ => trivial))) (Reps.none _ _))))); intro v213 w65 ho66 hb hg_ hnew_; clear hg_ hnew_; (first | rw [← Ny212.out] at ho66 | (simp only [Int.reduceToNat] at ho66; rw [← Ny212.out] at ho66)); have n3_ := Aside0.mk (Kd.N_lower ho66 (below_size (by repeat (first | (with_reducible first | exact HB.out | apply below_alloc | apply pw_below_drewN | apply below_drew1 | refine below_set ?_ (IsS52.ge HI173.out)) | exact HB.out)))); have n5_ := Aside0.mk (below_step (by repeat (first | (with_reducible first | exact HB.out | apply below_alloc | apply pw_below_drewN | apply below_drew1 | refine below_set ?_ (IsS52.ge HI173.out)) | exact HB.out)) hb); clear HO_45; clear HO204; clear HO211; clear HI173; clear HB; clear HO201; have HO214 := n3_; have HB := n5_; clear n3_ n5_; clear hb ho66; obtain ⟨Ao67, co67, eo67⟩ := Kd.N_slice HO214.out; subst eo67))
                    go_loopg [90] k2 (fun kq v90 w' => ∃ (x90_3 : Int), v90 = .int .i64 x90_3 ∧ Aside0 (groupcontrollaw1_NamePaths.l1 kq y212 (y212.length : Int) x90_3 = some r) ∧ Aside0 (kq ≤ k2) ∧ Aside0 (Kd.N (Kd.slice 9 Kd.string) 22 w' w.heap.size (fun _ => True) (.slice Ao67 y212.length co67) y212) ∧ Aside0 (Below w.heap.size w w'))
                    case atStart => exact ⟨(0), (by first | rfl | (simp; done) | (simp [*]; done)), H', ⟨Nat.le_refl _⟩, ⟨by (with_reducible repeat (first | apply Kd.N_alloc | apply Kd.N_drewN | apply Kd.N_drew)); exact Kd.N_mono HO214.out (fun _ hk => trivial)⟩, ⟨by repeat (first | (with_reducible first | exact HB.out | apply below_alloc | apply pw_below_drewN | apply below_drew1) | exact HB.out)⟩⟩
                    case round =>
                      clear H'
                      try clear c1
                      try clear p1
                      try clear q1
                      try clear hx1
                      try clear c2
                      try clear p2
                      try clear c3
                      try clear c4
                      try clear c5
                      try clear c5b0
                      try clear c5b1
                      try clear c6
                      try clear c6b0
                      try clear c6b1
                      try clear p6
                      try clear q6
                      try clear c7
                      try clear c8
                      try clear c10
                      try clear c12
                      try clear c12b0
                      try clear c12b1
                      try clear c12b2
                      try clear c13
                      try clear c14
                      try clear c15
                      try clear c18
                      try clear p18
                      try clear q18
                      try clear hx18
                      try clear c19
                      try clear c23
                      try clear c23b0
                      try clear c24
                      try clear c24b0
                      try clear c25
                      try clear c25b0
                      try clear c28
                      try clear c28b0
                      try clear c28b1
                      try clear c30
                      try clear c33
                      try clear c33b0
                      try clear c33b1
                      try clear c33b2
                      try clear c53
                      try clear c53b0
                      try clear c53b1
                      try clear c54
                      try clear c54b0
                      try clear c54b1
                      try clear q62
                      try clear p64
                      try clear hx183_0
                      try clear p183
                      try clear p2
                      try clear q183
                      try clear q62
                      obtain ⟨x90_3, rfl, HA, HK3, HO_88, HB⟩ := hrel
                      cases gk with
                      | zero => exact absurd HA.out (by simp [groupcontrollaw1_NamePaths.l1])
                      | succ k3 =>
                        have H := HA.out
                        clear HA
                        simp only [groupcontrollaw1_NamePaths.l1] at H
                        by_cases c68 : x90_3 < (y212.length : Int)
                        · rw [if_pos c68] at H
                          have c68b0 : decide (x90_3 < (y212.length : Int)) = true := decide_eq_true c68
                          clear c68
                          by_cases c69 : 0 ≤ x90_3
                          · rw [if_pos c69] at H
                            have c69b0 : decide (0 ≤ x90_3) = true := decide_eq_true c69
                            clear c69
                            by_cases c70 : x90_3 < (y212.length : Int)
                            · rw [if_pos c70] at H
                              have c70b0 : decide (x90_3 < (y212.length : Int)) = true := decide_eq_true c70
                              clear c70
                              replace H := Option.bind_eq_some_iff.mp H
                              obtain ⟨⟨t217, t218⟩, A710, H⟩ := H
                              replace H : ((groupcontrolref1_Join.f k3 (rd_L3 y212 x90_3)).bind fun bt219 => (if t217.toList = bt219.1.toList then (if t218 = bt219.2 then (groupcontrollaw1_NamePaths.l1 k3 y212 (y212.length : Int) (wrap64 (x90_3 + 1))) else (some false)) else (some false))) = some r := H
                              have A71 := Aside0.mk A710
                              clear A710
                              replace H := Option.bind_eq_some_iff.mp H
                              obtain ⟨⟨t219, t220⟩, A720, H⟩ := H
                              replace H : (if t217.toList = t219.toList then (if t218 = t220 then (groupcontrollaw1_NamePaths.l1 k3 y212 (y212.length : Int) (wrap64 (x90_3 + 1))) else (some false)) else (some false)) = some r := H
                              have A72 := Aside0.mk A720
                              clear A720
                              by_cases c73 : t217.toList = t219.toList
                              · rw [if_pos c73] at H
                                have c73b0 : (t217.toList == t219.toList) = true := beq_iff_eq.mpr c73
                                have c73b1 : (t217.toList != t219.toList) = false := bne_eq_false_iff_eq.mpr c73
                                clear c73
                                by_cases c74 : t218 = t220
                                · rw [if_pos c74] at H
                                  have c74b0 : (t218 == t220) = true := beq_iff_eq.mpr c74
                                  have c74b1 : (t218 != t220) = false := bne_eq_false_iff_eq.mpr c74
                                  clear c74
                                  have H' := Aside0.mk H
                                  clear H
                                  have p216 : 0 ≤ (x90_3 : Int) := of_decide_eq_true (by first | (with_reducible assumption) | assumption)
                                  have q216 : x90_3 < (y212.length : Int) := of_decide_eq_true (by first | (with_reducible assumption) | assumption)
                                  obtain ⟨ad216, A216_0, c216_0, e216, hx216_0, hl216_0, hi216_0⟩ := at_L3 (Kd.N_reads' HO_88.out).2.2 x90_3 p216 q216
                                  cases e216
                                  obtain ⟨ce216, hce216, hMe216, hcc216⟩ := Kd.N_get HO_88.out [] x90_3 p216 (by first | exact q216 | exact of_decide_eq_true (by first | (with_reducible assumption) | assumption) | (have e_ := (Kd.N_reads' HO_88.out).1; omega))
                                  obtain ⟨ua216_0, uc216_0, rfl, ul216_0, ge216_0⟩ := Kd.FK_slice_open hMe216
                                  have hv216_0 := hcc216 0 _ rfl
                                  rw [Nat.add_zero, show ((Kd.slice 9 Kd.string)).sz = 1 from rfl, Nat.mul_one] at hv216_0
                                  replace hv216_0 := Option.some.inj (hv216_0.symm.trans hx216_0)
                                  injection hv216_0 with hva_ hvn_ hvc_
                                  rw [hva_] at ge216_0
                                  rw [hvc_] at ul216_0
                                  have HL216_0 := Aside0.mk (show Kd.V Kd.string 9 _ w.heap.size _ _ (rd_L3 y212 x90_3) from Kd.V_mk ul216_0 ge216_0)
                                  clear hva_ hvn_ hvc_ ge216_0 ul216_0
                                  clear hcc216 hce216
                                  have HR216_0 := Aside0.mk hi216_0
                                  have HC216_0 := Aside0.mk hl216_0
                                  clear hi216_0 hl216_0
                                  replace p216 := eq_true p216
                                  replace q216 := eq_true q216
                                  go_wp2_with (first | ((with_reducible refine gate_callee (f := 8) rfl ?_); refine goesL_ (some 96) rfl rfl Tryd.func8 (by kernel_rfl) rfl #[.slice A216_0 (rd_L3 y212 x90_3).length c216_0] rfl (by (try simp only [List.map_toArray, List.map_cons, List.map_nil]); first | done | rfl | (simp only [List.length_drop, List.length_take]; rfl)) ?_; (with_reducible refine (name_Join.calls _ _ (rd_L3 y212 x90_3) t217 t218 _ ?side1 ?side2 A71.out).mono ?_); (case side1 => repeat (first | exact (by repeat (first | (with_reducible exact HR216_0.out) | (with_reducible refine Kd.C_alloc ?_ _) | (with_reducible refine Kd.C_drewN ?_ _) | (with_reducible refine Kd.C_drew ?_) | exact HR216_0.out)) | (with_reducible refine Kd.C_alloc ?_ _) | (with_reducible refine Kd.C_drewN ?_ _) | (with_reducible refine Kd.C_drew ?_))); (case side2 => exact HC216_0.out); rintro e w75 ⟨rfl, hb⟩; refine ⟨_, rfl, ?_⟩; have n0_ := Aside0.mk (Kd.N_below (by (with_reducible repeat (first | apply Kd.N_alloc | apply Kd.N_drewN | apply Kd.N_drew)); exact HO_88.out) hb); have n1_ := Aside0.mk (Kd.V_below (by (with_reducible repeat (first | apply Kd.V_alloc | apply Kd.V_drewN | apply Kd.V_drew)); exact HL216_0.out) hb); have n2_ := Aside0.mk (Kd.C_below (by repeat (first | (with_reducible exact HR216_0.out) | (with_reducible refine Kd.C_alloc ?_ _) | (with_reducible refine Kd.C_drewN ?_ _) | (with_reducible refine Kd.C_drew ?_) | exact HR216_0.out)) hb); have n3_ := Aside0.mk (below_step (by repeat (first | (with_reducible first | exact HB.out | apply below_alloc | apply pw_below_drewN | apply below_drew1) | exact HB.out)) hb); clear HO_88; clear HL216_0; clear HR216_0; clear HB; have HO_88 := n0_; have HL216_0 := n1_; have HR216_0 := n2_; have HB := n3_; clear n0_ n1_ n2_ n3_; (try clear hb); (try clear hb2); (try clear hk); (try clear hi)) | ((with_reducible refine gate_callee (f := 20) rfl ?_); refine goesL_ (some 101) rfl rfl Tryd.func20 (by kernel_rfl) rfl #[.slice A216_0 (rd_L3 y212 x90_3).length c216_0] rfl (by (try simp only [List.map_toArray, List.map_cons, List.map_nil]); first | done | rfl | (simp only [List.length_drop, List.length_take]; rfl)) ?_; (with_reducible refine (groupcontrolref1_Join.calls k3 _ _ (rd_L3 y212 x90_3) t219 t220 _ ?side1 ?side2 A72.out).mono ?_); (case side1 => repeat (first | exact (by repeat (first | (with_reducible exact HR216_0.out) | (with_reducible refine Kd.C_alloc ?_ _) | (with_reducible refine Kd.C_drewN ?_ _) | (with_reducible refine Kd.C_drew ?_) | exact HR216_0.out)) | (with_reducible refine Kd.C_alloc ?_ _) | (with_reducible refine Kd.C_drewN ?_ _) | (with_reducible refine Kd.C_drew ?_))); (case side2 => exact HC216_0.out); rintro e w' ⟨rfl, ⟨nd, rfl⟩⟩; refine ⟨_, rfl, ?_⟩))
                                  go_roundg k3
                                  case measure => have := HJ3.out; have := HK2.out; have := HK3.out; omega
                                  case rel => exact ⟨(wrap64 (x90_3 + 1)), (by first | rfl | (simp; done) | (simp [*]; done)), H', ⟨by have := HJ3.out; have := HK2.out; have := HK3.out; omega⟩, ⟨by (with_reducible repeat (first | apply Kd.N_alloc | apply Kd.N_drewN | apply Kd.N_drew)); exact HO_88.out⟩, ⟨by repeat (first | (with_reducible first | exact HB.out | apply below_alloc | apply pw_below_drewN | apply below_drew1) | exact HB.out)⟩⟩
                                · rw [if_neg c74] at H
                                  have c74b0 : (t218 == t220) = false := beq_eq_false_iff_ne.mpr c74
                                  have c74b1 : (t218 != t220) = true := bne_iff_ne.mpr c74
                                  obtain rfl := Option.some.inj H
                                  have p216 : 0 ≤ (x90_3 : Int) := of_decide_eq_true (by first | (with_reducible assumption) | assumption)
                                  have q216 : x90_3 < (y212.length : Int) := of_decide_eq_true (by first | (with_reducible assumption) | assumption)
                                  obtain ⟨ad216, A216_0, c216_0, e216, hx216_0, hl216_0, hi216_0⟩ := at_L3 (Kd.N_reads' HO_88.out).2.2 x90_3 p216 q216
                                  cases e216
                                  obtain ⟨ce216, hce216, hMe216, hcc216⟩ := Kd.N_get HO_88.out [] x90_3 p216 (by first | exact q216 | exact of_decide_eq_true (by first | (with_reducible assumption) | assumption) | (have e_ := (Kd.N_reads' HO_88.out).1; omega))
                                  obtain ⟨ua216_0, uc216_0, rfl, ul216_0, ge216_0⟩ := Kd.FK_slice_open hMe216
                                  have hv216_0 := hcc216 0 _ rfl
                                  rw [Nat.add_zero, show ((Kd.slice 9 Kd.string)).sz = 1 from rfl, Nat.mul_one] at hv216_0
                                  replace hv216_0 := Option.some.inj (hv216_0.symm.trans hx216_0)
                                  injection hv216_0 with hva_ hvn_ hvc_
                                  rw [hva_] at ge216_0
                                  rw [hvc_] at ul216_0
                                  have HL216_0 := Aside0.mk (show Kd.V Kd.string 9 _ w.heap.size _ _ (rd_L3 y212 x90_3) from Kd.V_mk ul216_0 ge216_0)
                                  clear hva_ hvn_ hvc_ ge216_0 ul216_0
                                  clear hcc216 hce216
                                  have HR216_0 := Aside0.mk hi216_0
                                  have HC216_0 := Aside0.mk hl216_0
                                  clear hi216_0 hl216_0
                                  replace p216 := eq_true p216
                                  replace q216 := eq_true q216
                                  go_wp2_with (first | ((with_reducible refine gate_callee (f := 8) rfl ?_); refine goesL_ (some 96) rfl rfl Tryd.func8 (by kernel_rfl) rfl #[.slice A216_0 (rd_L3 y212 x90_3).length c216_0] rfl (by (try simp only [List.map_toArray, List.map_cons, List.map_nil]); first | done | rfl | (simp only [List.length_drop, List.length_take]; rfl)) ?_; (with_reducible refine (name_Join.calls _ _ (rd_L3 y212 x90_3) t217 t218 _ ?side1 ?side2 A71.out).mono ?_); (case side1 => repeat (first | exact (by repeat (first | (with_reducible exact HR216_0.out) | (with_reducible refine Kd.C_alloc ?_ _) | (with_reducible refine Kd.C_drewN ?_ _) | (with_reducible refine Kd.C_drew ?_) | exact HR216_0.out)) | (with_reducible refine Kd.C_alloc ?_ _) | (with_reducible refine Kd.C_drewN ?_ _) | (with_reducible refine Kd.C_drew ?_))); (case side2 => exact HC216_0.out); rintro e w76 ⟨rfl, hb⟩; refine ⟨_, rfl, ?_⟩; have n0_ := Aside0.mk (Kd.N_below (by (with_reducible repeat (first | apply Kd.N_alloc | apply Kd.N_drewN | apply Kd.N_drew)); exact HO_88.out) hb); have n1_ := Aside0.mk (Kd.V_below (by (with_reducible repeat (first | apply Kd.V_alloc | apply Kd.V_drewN | apply Kd.V_drew)); exact HL216_0.out) hb); have n2_ := Aside0.mk (Kd.C_below (by repeat (first | (with_reducible exact HR216_0.out) | (with_reducible refine Kd.C_alloc ?_ _) | (with_reducible refine Kd.C_drewN ?_ _) | (with_reducible refine Kd.C_drew ?_) | exact HR216_0.out)) hb); have n3_ := Aside0.mk (below_step (by repeat (first | (with_reducible first | exact HB.out | apply below_alloc | apply pw_below_drewN | apply below_drew1) | exact HB.out)) hb); clear HO_88; clear HL216_0; clear HR216_0; clear HB; have HO_88 := n0_; have HL216_0 := n1_; have HR216_0 := n2_; have HB := n3_; clear n0_ n1_ n2_ n3_; (try clear hb); (try clear hb2); (try clear hk); (try clear hi)) | ((with_reducible refine gate_callee (f := 20) rfl ?_); refine goesL_ (some 101) rfl rfl Tryd.func20 (by kernel_rfl) rfl #[.slice A216_0 (rd_L3 y212 x90_3).length c216_0] rfl (by (try simp only [List.map_toArray, List.map_cons, List.map_nil]); first | done | rfl | (simp only [List.length_drop, List.length_take]; rfl)) ?_; (with_reducible refine (groupcontrolref1_Join.calls k3 _ _ (rd_L3 y212 x90_3) t219 t220 _ ?side1 ?side2 A72.out).mono ?_); (case side1 => repeat (first | exact (by repeat (first | (with_reducible exact HR216_0.out) | (with_reducible refine Kd.C_alloc ?_ _) | (with_reducible refine Kd.C_drewN ?_ _) | (with_reducible refine Kd.C_drew ?_) | exact HR216_0.out)) | (with_reducible refine Kd.C_alloc ?_ _) | (with_reducible refine Kd.C_drewN ?_ _) | (with_reducible refine Kd.C_drew ?_))); (case side2 => exact HC216_0.out); rintro e w' ⟨rfl, ⟨nd, rfl⟩⟩; refine ⟨_, rfl, ?_⟩))
                                  go_ret
                                  exact ⟨by first | rfl | (simp [errW_none, errW_some] <;> rfl) | (simp [*, errW_none, errW_some] <;> rfl), by repeat (first | (with_reducible first | exact HB.out | apply below_alloc | apply pw_below_drewN | apply below_drew1) | exact HB.out)⟩
                              · rw [if_neg c73] at H
                                have c73b0 : (t217.toList == t219.toList) = false := beq_eq_false_iff_ne.mpr c73
                                have c73b1 : (t217.toList != t219.toList) = true := bne_iff_ne.mpr c73
                                obtain rfl := Option.some.inj H
                                have p216 : 0 ≤ (x90_3 : Int) := of_decide_eq_true (by first | (with_reducible assumption) | assumption)
                                have q216 : x90_3 < (y212.length : Int) := of_decide_eq_true (by first | (with_reducible assumption) | assumption)
                                obtain ⟨ad216, A216_0, c216_0, e216, hx216_0, hl216_0, hi216_0⟩ := at_L3 (Kd.N_reads' HO_88.out).2.2 x90_3 p216 q216
                                cases e216
                                obtain ⟨ce216, hce216, hMe216, hcc216⟩ := Kd.N_get HO_88.out [] x90_3 p216 (by first | exact q216 | exact of_decide_eq_true (by first | (with_reducible assumption) | assumption) | (have e_ := (Kd.N_reads' HO_88.out).1; omega))
                                obtain ⟨ua216_0, uc216_0, rfl, ul216_0, ge216_0⟩ := Kd.FK_slice_open hMe216
                                have hv216_0 := hcc216 0 _ rfl
                                rw [Nat.add_zero, show ((Kd.slice 9 Kd.string)).sz = 1 from rfl, Nat.mul_one] at hv216_0
                                replace hv216_0 := Option.some.inj (hv216_0.symm.trans hx216_0)
                                injection hv216_0 with hva_ hvn_ hvc_
                                rw [hva_] at ge216_0
                                rw [hvc_] at ul216_0
                                have HL216_0 := Aside0.mk (show Kd.V Kd.string 9 _ w.heap.size _ _ (rd_L3 y212 x90_3) from Kd.V_mk ul216_0 ge216_0)
                                clear hva_ hvn_ hvc_ ge216_0 ul216_0
                                clear hcc216 hce216
                                have HR216_0 := Aside0.mk hi216_0
                                have HC216_0 := Aside0.mk hl216_0
                                clear hi216_0 hl216_0
                                replace p216 := eq_true p216
                                replace q216 := eq_true q216
                                go_wp2_with (first | ((with_reducible refine gate_callee (f := 8) rfl ?_); refine goesL_ (some 96) rfl rfl Tryd.func8 (by kernel_rfl) rfl #[.slice A216_0 (rd_L3 y212 x90_3).length c216_0] rfl (by (try simp only [List.map_toArray, List.map_cons, List.map_nil]); first | done | rfl | (simp only [List.length_drop, List.length_take]; rfl)) ?_; (with_reducible refine (name_Join.calls _ _ (rd_L3 y212 x90_3) t217 t218 _ ?side1 ?side2 A71.out).mono ?_); (case side1 => repeat (first | exact (by repeat (first | (with_reducible exact HR216_0.out) | (with_reducible refine Kd.C_alloc ?_ _) | (with_reducible refine Kd.C_drewN ?_ _) | (with_reducible refine Kd.C_drew ?_) | exact HR216_0.out)) | (with_reducible refine Kd.C_alloc ?_ _) | (with_reducible refine Kd.C_drewN ?_ _) | (with_reducible refine Kd.C_drew ?_))); (case side2 => exact HC216_0.out); rintro e w77 ⟨rfl, hb⟩; refine ⟨_, rfl, ?_⟩; have n0_ := Aside0.mk (Kd.N_below (by (with_reducible repeat (first | apply Kd.N_alloc | apply Kd.N_drewN | apply Kd.N_drew)); exact HO_88.out) hb); have n1_ := Aside0.mk (Kd.V_below (by (with_reducible repeat (first | apply Kd.V_alloc | apply Kd.V_drewN | apply Kd.V_drew)); exact HL216_0.out) hb); have n2_ := Aside0.mk (Kd.C_below (by repeat (first | (with_reducible exact HR216_0.out) | (with_reducible refine Kd.C_alloc ?_ _) | (with_reducible refine Kd.C_drewN ?_ _) | (with_reducible refine Kd.C_drew ?_) | exact HR216_0.out)) hb); have n3_ := Aside0.mk (below_step (by repeat (first | (with_reducible first | exact HB.out | apply below_alloc | apply pw_below_drewN | apply below_drew1) | exact HB.out)) hb); clear HO_88; clear HL216_0; clear HR216_0; clear HB; have HO_88 := n0_; have HL216_0 := n1_; have HR216_0 := n2_; have HB := n3_; clear n0_ n1_ n2_ n3_; (try clear hb); (try clear hb2); (try clear hk); (try clear hi)) | ((with_reducible refine gate_callee (f := 20) rfl ?_); refine goesL_ (some 101) rfl rfl Tryd.func20 (by kernel_rfl) rfl #[.slice A216_0 (rd_L3 y212 x90_3).length c216_0] rfl (by (try simp only [List.map_toArray, List.map_cons, List.map_nil]); first | done | rfl | (simp only [List.length_drop, List.length_take]; rfl)) ?_; (with_reducible refine (groupcontrolref1_Join.calls k3 _ _ (rd_L3 y212 x90_3) t219 t220 _ ?side1 ?side2 A72.out).mono ?_); (case side1 => repeat (first | exact (by repeat (first | (with_reducible exact HR216_0.out) | (with_reducible refine Kd.C_alloc ?_ _) | (with_reducible refine Kd.C_drewN ?_ _) | (with_reducible refine Kd.C_drew ?_) | exact HR216_0.out)) | (with_reducible refine Kd.C_alloc ?_ _) | (with_reducible refine Kd.C_drewN ?_ _) | (with_reducible refine Kd.C_drew ?_))); (case side2 => exact HC216_0.out); rintro e w' ⟨rfl, ⟨nd, rfl⟩⟩; refine ⟨_, rfl, ?_⟩))
                                go_ret
                                exact ⟨by first | rfl | (simp [errW_none, errW_some] <;> rfl) | (simp [*, errW_none, errW_some] <;> rfl), by repeat (first | (with_reducible first | exact HB.out | apply below_alloc | apply pw_below_drewN | apply below_drew1) | exact HB.out)⟩
                            · rw [if_neg c70] at H
                              exact absurd H (by simp)
                          · rw [if_neg c69] at H
                            exact absurd H (by simp)
                        · rw [if_neg c68] at H
                          have c68b0 : decide (x90_3 < (y212.length : Int)) = false := decide_eq_false c68
                          clear c68
                          replace H := Option.bind_eq_some_iff.mp H
                          obtain ⟨t215, A780, H⟩ := H
                          replace H : (some t215) = some r := H
                          have A78 := Aside0.mk A780
                          clear A780
                          obtain rfl := Option.some.inj H
                          go_wp2_with (first | ((with_reducible refine gate_callee (f := 10) rfl ?_); refine goesL_ (some 113) rfl rfl Tryd.func10 (by kernel_rfl) rfl #[] rfl (by (try simp only [List.map_toArray, List.map_cons, List.map_nil]); first | done | rfl | (simp only [List.length_drop, List.length_take]; rfl)) ?_; (with_reducible refine (groupcontrollaw1_sane.calls  t215 _ A78.out).mono ?_); rintro e w79 ⟨rfl, hb⟩; refine ⟨_, rfl, ?_⟩; have n0_ := Aside0.mk (Kd.N_below (by (with_reducible repeat (first | apply Kd.N_alloc | apply Kd.N_drewN | apply Kd.N_drew)); exact HO_88.out) hb); have n1_ := Aside0.mk (below_step (by repeat (first | (with_reducible first | exact HB.out | apply below_alloc | apply pw_below_drewN | apply below_drew1) | exact HB.out)) hb); clear HO_88; clear HB; have HO_88 := n0_; have HB := n1_; clear n0_ n1_; (try clear hb); (try clear hb2); (try clear hk); (try clear hi)))
                          go_ret
                          exact ⟨by first | rfl | (simp [errW_none, errW_some] <;> rfl) | (simp [*, errW_none, errW_some] <;> rfl), by repeat (first | (with_reducible first | exact HB.out | apply below_alloc | apply pw_below_drewN | apply below_drew1) | exact HB.out)⟩
                  · rw [if_neg c54] at H
                    exact absurd H (by simp)
                · rw [if_neg c53] at H
                  exact absurd H (by simp)
        · rw [if_neg c12] at H
          exact absurd H (by simp)

def groupcontrollaw1_NamePaths.Pure : Prop := ∀ (a0 : ByteArray) (l1 : List ByteArray) (l2 : List Int), (∀ s ∈ l1, s.size ≤ 9223372036854775807) → groupcontrollaw1_NamePaths.f 3301 a0 l1 l2 = some true
/-- A row of texts that came in. -/
def StrRow (w : World) (a : Option Addr) (len cap : Nat) (ss : List ByteArray) : Prop :=
  (a = none ∧ len = 0 ∧ cap = 0 ∧ ss = []) ∨ ∃ x, a = some x ∧ len ≤ cap ∧ cap ≤ maxLen ∧ ss.length = cap ∧ (∀ i, i < ss.length → w.cell? (x.add i) = some (.string (ss.getD i ByteArray.empty))) ∧ ∀ s ∈ ss, s.size ≤ maxLen
theorem StrRow.reads {w : World} {a : Option Addr} {len cap : Nat} {ss : List ByteArray} (h : StrRow w a len cap ss) : ∃ l : List ByteArray, len = l.length ∧ Kd.C Kd.string w a l.length l ∧ l.length ≤ cap ∧ ∀ s ∈ l, s.size ≤ 9223372036854775807 := by
  rcases h with ⟨rfl, rfl, rfl, rfl⟩ | ⟨x, rfl, hl, hm, hz, hc, hs⟩
  · exact ⟨[], rfl, ⟨rfl, by simp, fun h => by simp at h⟩, by simp, fun s hs => by simp at hs⟩
  · have hlen : (ss.take len).length = len := by rw [List.length_take]; omega
    refine ⟨ss.take len, hlen.symm, ⟨rfl, ?_, fun _ => ⟨x, rfl, fun j p hj => ⟨[.string p], rfl, rfl, fun i u hi => ?_⟩⟩⟩, by omega, fun s hs2 => hs s (List.mem_of_mem_take hs2)⟩
    · rw [hlen]; exact Nat.le_trans hl hm
    · obtain ⟨hj1, hj2⟩ := List.getElem?_eq_some_iff.1 hj
      have hjl : j < ss.length := by rw [hlen] at hj1; omega
      have hp : ss.getD j ByteArray.empty = p := by
        rw [List.getD_eq_getElem?_getD, List.getElem?_eq_getElem hjl]
        rw [List.getElem_take] at hj2
        exact hj2
      cases i with
      | zero =>
        have hu : u = .string p := by simpa using hi.symm
        show w.cell? (x.add (j * 1 + 0)) = _
        rw [Nat.mul_one, Nat.add_zero, hc j hjl, hp, hu]
      | succ i => simp at hi
theorem groupcontrollaw1_NamePaths.walk (P : groupcontrollaw1_NamePaths.Pure) (a0 : ByteArray) (a1 : Option Addr) (len1 cap1 : Nat) (z1 : List ByteArray) (a2 : Option Addr) (len2 cap2 : Nat) (z2 : List Int) (w : World) (w1 : StrRow w a1 len1 cap1 z1) (w2 : (a2 = none ∧ len2 = 0 ∧ cap2 = 0 ∧ z2 = []) ∨ ∃ x, a2 = some x ∧ len2 ≤ cap2 ∧ cap2 ≤ maxLen ∧ z2.length = cap2 ∧ (∀ i, i < z2.length → w.cell? (x.add i) = some (.int .i64 (z2.getD i 0))) ∧ ∀ n ∈ z2, (Lit.int .i64 n).wf = true) :
    Calls Tryd.prog 4 #[.string a0, .slice a1 len1 cap1, .slice a2 len2 cap2] w fun e w' => e = .returned (.bool true) ∧ Below w.heap.size w w' := by
  obtain ⟨l1, rfl, hr1, hc1, hs1⟩ := w1.reads
  obtain ⟨l2, rfl, hr2, hm2, hw2, hc2⟩ := ReadsInt.ofRowC w2
  have h := P a0 l1 l2 hs1
  refine (groupcontrollaw1_NamePaths.calls 3301 a0 _ _ l1 _ _ l2 true w hr1 hc1 (Kd.C_of_reads (d := (0 : Int)) (h1 := fun _ => rfl) hr2) hc2 h).mono ?_
  rintro e w' ⟨rfl, hd⟩
  exact ⟨rfl, hd⟩

end Go.Proofs.YtjpbdkfgblmioaaDoor.PA
