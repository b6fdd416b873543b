/- Contracts of functions of the program and of its references, over the translation, for values that can be read as data: each call comes to what a Lean function says. Written by the kit's printer and a program of this session's, with hand-made contracts spliced in. -/
import Derived.Test.YtjpbdkfgblmioaaDoorPAx0
import Derived.Test.YtjpbdkfgblmioaaDoorPAx20
namespace Go.Proofs.YtjpbdkfgblmioaaDoor.PA
open Go.RowKit Go.Proofs.YtjpbdkfgblmioaaDoorW.PrintWords Go.Proofs.YtjpbdkfgblmioaaDoorW.PrintLast Go.Proofs.YtjpbdkfgblmioaaDoorW.PrintMore
attribute [local go_sem] max2_int min2_int max_two min_two max_three min_three max_four min_four   -- for this text's walks alone
set_option linter.unusedVariables false
set_option linter.unusedSimpArgs false

/-! ### groupcontrolref1_Join: function 20 -/
def groupcontrolref1_Join.l0 : Nat → List ByteArray → ByteArray → Int → Option (ByteArray × Int)
  | 0, _, _, _ => none
  | k + 1, x0, x4, x5 => if x5 < (x0.length : Int) then (if 0 ≤ x5 then ((groupcontrolref1_Valid.f k (rdOf ByteArray.empty x0 x5)).bind fun t167 => (if t167 = true then (if 1 + (rdOf ByteArray.empty x0 x5).size ≤ 9223372036854775807 then (if x4.size + ((⟨#[47]⟩ : ByteArray) ++ (rdOf ByteArray.empty x0 x5)).size ≤ 9223372036854775807 then (groupcontrolref1_Join.l0 k x0 (x4 ++ ((⟨#[47]⟩ : ByteArray) ++ (rdOf ByteArray.empty x0 x5))) (wrap64 (x5 + 1))) else (none)) else (none)) else (some ((⟨#[]⟩ : ByteArray), 2)))) else (none)) else (if (x0.length : Int) > 8 then (some ((⟨#[]⟩ : ByteArray), 7)) else (if x4.toList = ([] : List UInt8) then (some ((⟨#[47]⟩ : ByteArray), 0)) else (some (x4, 0))))
def groupcontrolref1_Join.f (k : Nat) (l0 : List ByteArray) : Option (ByteArray × Int) := groupcontrolref1_Join.l0 k l0 (⟨#[]⟩ : ByteArray) 0
theorem groupcontrolref1_Join.mono_l : ∀ k, (∀ y0 y1 y2, LeO (groupcontrolref1_Join.l0 k y0 y1 y2) (groupcontrolref1_Join.l0 (k + 1) y0 y1 y2))
  | 0 => fun _ _ _ r h => by simp [groupcontrolref1_Join.l0] at h
  | k + 1 => by
    have ih0 := groupcontrolref1_Join.mono_l k
    · intro y0 y1 y2
      unfold groupcontrolref1_Join.l0
      repeat' first
      | (with_reducible exact ih0 _ _ _)
      | (with_reducible exact groupcontrolref1_Valid.mono _ _)
      | (with_reducible exact LeO.refl _)
      | (with_reducible exact LeO.none _)
      | (with_reducible refine LeO.ite ?_ ?_)
      | (with_reducible refine LeO.bind ?_ (fun _ => ?_))
      | exact ih0 _ _ _
      | exact groupcontrolref1_Valid.mono _ _
      | exact LeO.none _
      | refine LeO.ite ?_ ?_
      | refine LeO.bind ?_ (fun _ => ?_)
theorem groupcontrolref1_Join.mono : ∀ a0 k, LeO (groupcontrolref1_Join.f k a0) (groupcontrolref1_Join.f (k + 1) a0) := by
  intro a0 k
  have ih0 := groupcontrolref1_Join.mono_l k
  unfold groupcontrolref1_Join.f
  repeat' first
      | (with_reducible exact ih0 _ _ _)
      | (with_reducible exact groupcontrolref1_Valid.mono _ _)
      | (with_reducible exact LeO.refl _)
      | (with_reducible exact LeO.none _)
      | (with_reducible refine LeO.ite ?_ ?_)
      | (with_reducible refine LeO.bind ?_ (fun _ => ?_))
      | exact ih0 _ _ _
      | exact groupcontrolref1_Valid.mono _ _
      | exact LeO.none _
      | refine LeO.ite ?_ ?_
      | refine LeO.bind ?_ (fun _ => ?_)
set_option maxHeartbeats 8000000 in
set_option maxRecDepth 100000 in
theorem groupcontrolref1_Join.calls (k : Nat) (A0 : Option Addr) (c0 : Nat) (l0 : List ByteArray) (r1 : ByteArray) (r2 : Int) (w : World) (hr0 : Kd.C Kd.string w A0 l0.length l0) (hc0 : l0.length ≤ c0) (h : groupcontrolref1_Join.f k l0 = some (r1, r2)) :
    Calls Tryd.prog 20 #[.slice A0 l0.length c0] w fun e w' => e = .returned (.tuple #[.string r1, .int .i64 r2]) ∧ Drawn0 w w' := by
  have HR0 := Aside0.mk hr0
  have HC0 := Aside0.mk hc0
  clear hr0 hc0
  have H : (groupcontrolref1_Join.l0 k l0 (⟨#[]⟩ : ByteArray) 0) = some (r1, r2) := h
  clear h
  have H' := Aside0.mk H
  clear H
  go_enter Tryd.func20, Tryd.ntmps20
  go_wp2
  go_loopg [4, 5] k (fun kq v4 v5 w' => ∃ (x4_1 : ByteArray) (x5_1 : Int), v4 = .string x4_1 ∧ v5 = .int .i64 x5_1 ∧ Aside0 (groupcontrolref1_Join.l0 kq l0 x4_1 x5_1 = some (r1, r2)) ∧ Aside0 (kq ≤ k) ∧ Drawn0 w w')
  case atStart => exact ⟨((⟨#[]⟩ : ByteArray)), (0), (by first | rfl | (simp; done) | (simp [*]; done)), (by first | rfl | (simp; done) | (simp [*]; done)), H', ⟨Nat.le_refl _⟩, by repeat (first | exact Drawn0.refl _ | apply Drawn0.step)⟩
  case round =>
    clear H'
    obtain ⟨x4_1, x5_1, rfl, rfl, HA, HK1, ⟨m1, rfl⟩⟩ := hrel
    cases gk with
    | zero => exact absurd HA.out (by simp [groupcontrolref1_Join.l0])
    | succ k1 =>
      have H := HA.out
      clear HA
      simp only [groupcontrolref1_Join.l0] at H
      by_cases c2 : x5_1 < (l0.length : Int)
      · rw [if_pos c2] at H
        have c2b0 : decide (x5_1 < (l0.length : Int)) = true := decide_eq_true c2
        clear c2
        by_cases c3 : 0 ≤ x5_1
        · rw [if_pos c3] at H
          have c3b0 : decide (0 ≤ x5_1) = true := decide_eq_true c3
          clear c3
          replace H := Option.bind_eq_some_iff.mp H
          obtain ⟨t167, A40, H⟩ := H
          replace H : (if t167 = true then (if 1 + (rdOf ByteArray.empty l0 x5_1).size ≤ 9223372036854775807 then (if x4_1.size + ((⟨#[47]⟩ : ByteArray) ++ (rdOf ByteArray.empty l0 x5_1)).size ≤ 9223372036854775807 then (groupcontrolref1_Join.l0 k1 l0 (x4_1 ++ ((⟨#[47]⟩ : ByteArray) ++ (rdOf ByteArray.empty l0 x5_1))) (wrap64 (x5_1 + 1))) else (none)) else (none)) else (some ((⟨#[]⟩ : ByteArray), 2))) = some (r1, r2) := H
          have A4 := Aside0.mk A40
          clear A40
          by_cases c5 : t167 = true
          · subst c5
            have H1 : (if 1 + (rdOf ByteArray.empty l0 x5_1).size ≤ 9223372036854775807 then (if x4_1.size + ((⟨#[47]⟩ : ByteArray) ++ (rdOf ByteArray.empty l0 x5_1)).size ≤ 9223372036854775807 then (groupcontrolref1_Join.l0 k1 l0 (x4_1 ++ ((⟨#[47]⟩ : ByteArray) ++ (rdOf ByteArray.empty l0 x5_1))) (wrap64 (x5_1 + 1))) else (none)) else (none)) = some (r1, r2) := by rw [if_pos rfl] at H; exact H
            clear H
            have H := H1
            clear H1
            by_cases c6 : 1 + (rdOf ByteArray.empty l0 x5_1).size ≤ 9223372036854775807
            · rw [if_pos c6] at H
              have c6b0 := eq_true c6
              have c6b1 : decide (1 + (rdOf ByteArray.empty l0 x5_1).size ≤ 9223372036854775807) = true := decide_eq_true c6
              try have c6b2 : (9223372036854775807 < 1 + (rdOf ByteArray.empty l0 x5_1).size) = False := eq_false (Nat.not_lt.2 c6)
              by_cases c7 : x4_1.size + ((⟨#[47]⟩ : ByteArray) ++ (rdOf ByteArray.empty l0 x5_1)).size ≤ 9223372036854775807
              · rw [if_pos c7] at H
                have c7b0 := eq_true c7
                have c7b1 : decide (x4_1.size + ((⟨#[47]⟩ : ByteArray) ++ (rdOf ByteArray.empty l0 x5_1)).size ≤ 9223372036854775807) = true := decide_eq_true c7
                try have c7b2 : (9223372036854775807 < x4_1.size + ((⟨#[47]⟩ : ByteArray) ++ (rdOf ByteArray.empty l0 x5_1)).size) = False := eq_false (Nat.not_lt.2 c7)
                have H' := Aside0.mk H
                clear H
                have p166 : 0 ≤ (x5_1 : Int) := of_decide_eq_true (by first | (with_reducible assumption) | assumption)
                have q166 : x5_1 < (l0.length : Int) := of_decide_eq_true (by first | (with_reducible assumption) | assumption)
                obtain ⟨ad166, e166, hx166_0⟩ := Kd.at_string HR0.out x5_1 p166 q166
                cases e166
                replace p166 := eq_true p166
                replace q166 := eq_true q166
                go_wp2_with (first | ((with_reducible refine gate_callee (f := 17) rfl ?_); refine goesL_ (some 16) rfl rfl Tryd.func17 (by kernel_rfl) rfl #[.string (rdOf ByteArray.empty l0 x5_1)] rfl (by (try simp only [List.map_toArray, List.map_cons, List.map_nil]); first | done | rfl | (simp only [List.length_drop, List.length_take]; rfl)) ?_; (with_reducible refine (groupcontrolref1_Valid.calls k1 (rdOf ByteArray.empty l0 x5_1) true _ A4.out).mono ?_); rintro e w' ⟨rfl, ⟨nd, rfl⟩⟩; refine ⟨_, rfl, ?_⟩; have p168 : 0 ≤ (x5_1 : Int) := of_decide_eq_true (by first | (with_reducible assumption) | assumption); have q168 : x5_1 < (l0.length : Int) := of_decide_eq_true (by first | (with_reducible assumption) | assumption); obtain ⟨ad168, e168, hx168_0⟩ := Kd.at_string HR0.out x5_1 p168 q168; obtain rfl : ad166 = ad168 := (by injection e168); replace p168 := eq_true p168; replace q168 := eq_true q168))
                go_roundg k1
                case measure => have := HK1.out; omega
                case rel => exact ⟨(x4_1 ++ ((⟨#[47]⟩ : ByteArray) ++ (rdOf ByteArray.empty l0 x5_1))), (wrap64 (x5_1 + 1)), (by first | rfl | (simp; done) | (simp [*]; done)), (by first | rfl | (simp; done) | (simp [*]; done)), H', ⟨by have := HK1.out; omega⟩, by repeat (first | exact Drawn0.refl _ | apply Drawn0.step)⟩
              · rw [if_neg c7] at H
                exact absurd H (by simp)
            · rw [if_neg c6] at H
              exact absurd H (by simp)
          · replace c5 := Bool.eq_false_iff.mpr c5
            subst c5
            have H1 : (some ((⟨#[]⟩ : ByteArray), 2)) = some (r1, r2) := by rw [if_neg (show ¬ (false = true) by decide)] at H; exact H
            clear H
            have H := H1
            clear H1
            simp only [Option.some.injEq, Prod.mk.injEq] at H
            obtain ⟨rfl, rfl⟩ := H
            have p166 : 0 ≤ (x5_1 : Int) := of_decide_eq_true (by first | (with_reducible assumption) | assumption)
            have q166 : x5_1 < (l0.length : Int) := of_decide_eq_true (by first | (with_reducible assumption) | assumption)
            obtain ⟨ad166, e166, hx166_0⟩ := Kd.at_string HR0.out x5_1 p166 q166
            cases e166
            replace p166 := eq_true p166
            replace q166 := eq_true q166
            go_wp2_with (first | ((with_reducible refine gate_callee (f := 17) rfl ?_); refine goesL_ (some 16) rfl rfl Tryd.func17 (by kernel_rfl) rfl #[.string (rdOf ByteArray.empty l0 x5_1)] rfl (by (try simp only [List.map_toArray, List.map_cons, List.map_nil]); first | done | rfl | (simp only [List.length_drop, List.length_take]; rfl)) ?_; (with_reducible refine (groupcontrolref1_Valid.calls k1 (rdOf ByteArray.empty l0 x5_1) false _ A4.out).mono ?_); rintro e w' ⟨rfl, ⟨nd, rfl⟩⟩; refine ⟨_, rfl, ?_⟩))
            go_ret2
            exact ⟨by first | rfl | (simp; done) | (simp [*]; done), by repeat (first | exact Drawn0.refl _ | apply Drawn0.step)⟩
        · rw [if_neg c3] at H
          exact absurd H (by simp)
      · rw [if_neg c2] at H
        have c2b0 : decide (x5_1 < (l0.length : Int)) = false := decide_eq_false c2
        clear c2
        by_cases c8 : (l0.length : Int) > 8
        · rw [if_pos c8] at H
          have c8b0 : decide (8 < (l0.length : Int)) = true := decide_eq_true c8
          have c8b1 : decide (8 < l0.length) = true := decide_eq_true (by omega)
          clear c8
          simp only [Option.some.injEq, Prod.mk.injEq] at H
          obtain ⟨rfl, rfl⟩ := H
          go_wp2
          go_ret2
          exact ⟨by first | rfl | (simp; done) | (simp [*]; done), by repeat (first | exact Drawn0.refl _ | apply Drawn0.step)⟩
        · rw [if_neg c8] at H
          have c8b0 : decide (8 < (l0.length : Int)) = false := decide_eq_false c8
          have c8b1 : decide (8 < l0.length) = false := decide_eq_false (by omega)
          clear c8
          by_cases c9 : x4_1.toList = ([] : List UInt8)
          · rw [if_pos c9] at H
            have c9b0 : (x4_1.toList == ([] : List UInt8)) = true := beq_iff_eq.mpr c9
            (try have c9e0 : x4_1.toList.isEmpty = true := by simpa using c9)
            (try have c9e1 : (!x4_1.toList.isEmpty) = false := by simpa using c9)
            have c9b1 : (x4_1.toList != ([] : List UInt8)) = false := bne_eq_false_iff_eq.mpr c9
            clear c9
            simp only [Option.some.injEq, Prod.mk.injEq] at H
            obtain ⟨rfl, rfl⟩ := H
            go_wp2
            go_ret2
            exact ⟨by first | rfl | (simp; done) | (simp [*]; done), by repeat (first | exact Drawn0.refl _ | apply Drawn0.step)⟩
          · rw [if_neg c9] at H
            have c9b0 : (x4_1.toList == ([] : List UInt8)) = false := beq_eq_false_iff_ne.mpr c9
            (try have c9e0 : x4_1.toList.isEmpty = false := by simpa using c9)
            (try have c9e1 : (!x4_1.toList.isEmpty) = true := by simpa using c9)
            have c9b1 : (x4_1.toList != ([] : List UInt8)) = true := bne_iff_ne.mpr c9
            simp only [Option.some.injEq, Prod.mk.injEq] at H
            obtain ⟨rfl, rfl⟩ := H
            go_wp2
            go_ret2
            exact ⟨by first | rfl | (simp; done) | (simp [*]; done), by repeat (first | exact Drawn0.refl _ | apply Drawn0.step)⟩

end Go.Proofs.YtjpbdkfgblmioaaDoor.PA
