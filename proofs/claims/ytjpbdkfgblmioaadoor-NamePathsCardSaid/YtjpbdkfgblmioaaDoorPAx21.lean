/- Contracts of functions of the program and of its references, over the translation, for values that can be read as data: each call comes to what a Lean function says. Written by the kit's printer and a program of this session's, with hand-made contracts spliced in. -/
import Derived.Test.YtjpbdkfgblmioaaDoorPAx0
import Derived.Test.YtjpbdkfgblmioaaDoorPAx20
namespace Go.Proofs.YtjpbdkfgblmioaaDoor.PA
open Go.RowKit Go.Proofs.YtjpbdkfgblmioaaDoorW.PrintWords Go.Proofs.YtjpbdkfgblmioaaDoorW.PrintLast Go.Proofs.YtjpbdkfgblmioaaDoorW.PrintMore
attribute [local go_sem] max2_int min2_int max_two min_two max_three min_three max_four min_four   -- for this text's walks alone
set_option linter.unusedVariables false
set_option linter.unusedSimpArgs false

/-! ### groupcontrolref1_Split: function 15 -/
mutual
def groupcontrolref1_Split.j0 : Nat → ByteArray → Bool → Option (List ByteArray × Int)
  | 0, _, _ => none
  | k + 1, x0, x13 => if x13 = true then (some (([] : List ByteArray), 2)) else (if x0.toList = ([47] : List UInt8) then (some (([] : List ByteArray), 0)) else (groupcontrolref1_Split.l0 k x0 ([] : List ByteArray) (⟨#[]⟩ : ByteArray) 1))
def groupcontrolref1_Split.l0 : Nat → ByteArray → List ByteArray → ByteArray → Int → Option (List ByteArray × Int)
  | 0, _, _, _, _ => none
  | k + 1, x0, x4, x5, x6 => if x6 ≤ (x0.size : Int) then (if x6 < (x0.size : Int) then (if 0 ≤ x6 then (groupcontrolref1_Split.j2 k x0 x4 x5 x6 ((bt x0 x6) != 47)) else (none)) else (groupcontrolref1_Split.j2 k x0 x4 x5 x6 false)) else (if (x4.length : Int) > 8 then (some (([] : List ByteArray), 7)) else (some (x4, 0)))
def groupcontrolref1_Split.j2 : Nat → ByteArray → List ByteArray → ByteArray → Int → Bool → Option (List ByteArray × Int)
  | 0, _, _, _, _, _ => none
  | k + 1, x0, x4, x5, x6, x31 => if x31 = true then (if 0 ≤ x6 then (if x6 ≤ (wrap64 (x6 + 1)) then (if (wrap64 (x6 + 1)) ≤ (x0.size : Int) then (if x5.size + (x0.extract (x6 : Int).toNat ((wrap64 (x6 + 1)) : Int).toNat).size ≤ 9223372036854775807 then (groupcontrolref1_Split.l0 k x0 x4 (x5 ++ (x0.extract (x6 : Int).toNat ((wrap64 (x6 + 1)) : Int).toNat)) (wrap64 (x6 + 1))) else (none)) else (none)) else (none)) else (none)) else ((groupcontrolref1_Valid.f k x5).bind fun t160 => (if t160 = true then (if x4.length < 8796093022208 then (groupcontrolref1_Split.l0 k x0 (x4 ++ [x5]) (⟨#[]⟩ : ByteArray) (wrap64 (x6 + 1))) else (none)) else (some (([] : List ByteArray), 2))))
end
def groupcontrolref1_Split.f (k : Nat) (a0 : ByteArray) : Option (List ByteArray × Int) := if a0.toList = ([] : List UInt8) then (groupcontrolref1_Split.j0 k a0 true) else (if 0 < (a0.size : Int) then (groupcontrolref1_Split.j0 k a0 ((bt a0 0) != 47)) else (none))
theorem groupcontrolref1_Split.mono_l : ∀ k, (∀ y0 y1, LeO (groupcontrolref1_Split.j0 k y0 y1) (groupcontrolref1_Split.j0 (k + 1) y0 y1)) ∧ (∀ y0 y1 y2 y3, LeO (groupcontrolref1_Split.l0 k y0 y1 y2 y3) (groupcontrolref1_Split.l0 (k + 1) y0 y1 y2 y3)) ∧ (∀ y0 y1 y2 y3 y4, LeO (groupcontrolref1_Split.j2 k y0 y1 y2 y3 y4) (groupcontrolref1_Split.j2 (k + 1) y0 y1 y2 y3 y4))
  | 0 => ⟨fun _ _ r h => by simp [groupcontrolref1_Split.j0] at h, fun _ _ _ _ r h => by simp [groupcontrolref1_Split.l0] at h, fun _ _ _ _ _ r h => by simp [groupcontrolref1_Split.j2] at h⟩
  | k + 1 => by
    obtain ⟨ih0, ih1, ih2⟩ := groupcontrolref1_Split.mono_l k
    refine ⟨?_, ?_, ?_⟩
    · intro y0 y1
      unfold groupcontrolref1_Split.j0
      repeat' first
      | (with_reducible exact ih0 _ _)
      | (with_reducible exact ih1 _ _ _ _)
      | (with_reducible exact ih2 _ _ _ _ _)
      | (with_reducible exact groupcontrolref1_Valid.mono _ _)
      | (with_reducible exact LeO.refl _)
      | (with_reducible exact LeO.none _)
      | (with_reducible refine LeO.ite ?_ ?_)
      | (with_reducible refine LeO.bind ?_ (fun _ => ?_))
      | exact ih0 _ _
      | exact ih1 _ _ _ _
      | exact ih2 _ _ _ _ _
      | exact groupcontrolref1_Valid.mono _ _
      | exact LeO.none _
      | refine LeO.ite ?_ ?_
      | refine LeO.bind ?_ (fun _ => ?_)
    · intro y0 y1 y2 y3
      unfold groupcontrolref1_Split.l0
      repeat' first
      | (with_reducible exact ih0 _ _)
      | (with_reducible exact ih1 _ _ _ _)
      | (with_reducible exact ih2 _ _ _ _ _)
      | (with_reducible exact groupcontrolref1_Valid.mono _ _)
      | (with_reducible exact LeO.refl _)
      | (with_reducible exact LeO.none _)
      | (with_reducible refine LeO.ite ?_ ?_)
      | (with_reducible refine LeO.bind ?_ (fun _ => ?_))
      | exact ih0 _ _
      | exact ih1 _ _ _ _
      | exact ih2 _ _ _ _ _
      | exact groupcontrolref1_Valid.mono _ _
      | exact LeO.none _
      | refine LeO.ite ?_ ?_
      | refine LeO.bind ?_ (fun _ => ?_)
    · intro y0 y1 y2 y3 y4
      unfold groupcontrolref1_Split.j2
      repeat' first
      | (with_reducible exact ih0 _ _)
      | (with_reducible exact ih1 _ _ _ _)
      | (with_reducible exact ih2 _ _ _ _ _)
      | (with_reducible exact groupcontrolref1_Valid.mono _ _)
      | (with_reducible exact LeO.refl _)
      | (with_reducible exact LeO.none _)
      | (with_reducible refine LeO.ite ?_ ?_)
      | (with_reducible refine LeO.bind ?_ (fun _ => ?_))
      | exact ih0 _ _
      | exact ih1 _ _ _ _
      | exact ih2 _ _ _ _ _
      | exact groupcontrolref1_Valid.mono _ _
      | exact LeO.none _
      | refine LeO.ite ?_ ?_
      | refine LeO.bind ?_ (fun _ => ?_)
theorem groupcontrolref1_Split.mono : ∀ a0 k, LeO (groupcontrolref1_Split.f k a0) (groupcontrolref1_Split.f (k + 1) a0) := by
  intro a0 k
  obtain ⟨ih0, ih1, ih2⟩ := groupcontrolref1_Split.mono_l k
  unfold groupcontrolref1_Split.f
  repeat' first
      | (with_reducible exact ih0 _ _)
      | (with_reducible exact ih1 _ _ _ _)
      | (with_reducible exact ih2 _ _ _ _ _)
      | (with_reducible exact groupcontrolref1_Valid.mono _ _)
      | (with_reducible exact LeO.refl _)
      | (with_reducible exact LeO.none _)
      | (with_reducible refine LeO.ite ?_ ?_)
      | (with_reducible refine LeO.bind ?_ (fun _ => ?_))
      | exact ih0 _ _
      | exact ih1 _ _ _ _
      | exact ih2 _ _ _ _ _
      | exact groupcontrolref1_Valid.mono _ _
      | exact LeO.none _
      | refine LeO.ite ?_ ?_
      | refine LeO.bind ?_ (fun _ => ?_)
set_option maxHeartbeats 8000000 in
set_option maxRecDepth 100000 in
theorem groupcontrolref1_Split.calls (k : Nat) (a0 : ByteArray) (r1 : List ByteArray) (r2 : Int) (w : World) (h : groupcontrolref1_Split.f k a0 = some (r1, r2)) :
    Calls Tryd.prog 15 #[.string a0] w fun e w' => ∃ v0_ : Value, e = .returned (.tuple #[v0_, .int .i64 r2]) ∧ Kd.R Kd.string 9 w' w.heap.size (fun _ => True) v0_ r1 ∧ Below w.heap.size w w' := by
  have HB := Aside0.mk (Below.refl w.heap.size w)
  have H : (if a0.toList = ([] : List UInt8) then (groupcontrolref1_Split.j0 k a0 true) else (if 0 < (a0.size : Int) then (groupcontrolref1_Split.j0 k a0 ((bt a0 0) != 47)) else (none))) = some (r1, r2) := h
  clear h
  have HC2 := Aside0.mk H
  clear H
  go_enter Tryd.func15, Tryd.ntmps15
  go_upto_region 1 with (fail)
  go_cut [13] (fun v13 wc => ∃ (kq : Nat) (x13_1 : Bool), v13 = .bool x13_1 ∧ Aside0 (groupcontrolref1_Split.j0 kq a0 x13_1 = some (r1, r2)) ∧ Aside0 (kq ≤ k) ∧ Aside0 (Below w.heap.size w wc))
  case first =>
    have H := HC2.out
    clear HC2
    by_cases c3 : a0.toList = ([] : List UInt8)
    · rw [if_pos c3] at H
      have c3b0 : (a0.toList == ([] : List UInt8)) = true := beq_iff_eq.mpr c3
      (try have c3e0 : a0.toList.isEmpty = true := by simpa using c3)
      (try have c3e1 : (!a0.toList.isEmpty) = false := by simpa using c3)
      have c3b1 : (a0.toList != ([] : List UInt8)) = false := bne_eq_false_iff_eq.mpr c3
      clear c3
      (first | rw [c3b0] | (simp only [i64_w, i32_w]; rw [c3b0]) | rw [c3e1] | rw [c3e0] | skip)
      have H' := Aside0.mk H
      clear H
      go_wp2
      go_meet
      case rel => exact ⟨_, (true), (by first | rfl | (simp; done) | (simp [*]; done)), H', ⟨by first | omega | exact Nat.le_refl _⟩, ⟨by repeat (first | (with_reducible first | exact HB.out | apply below_alloc | apply pw_below_drewN | apply below_drew1) | exact HB.out)⟩⟩
    · rw [if_neg c3] at H
      have c3b0 : (a0.toList == ([] : List UInt8)) = false := beq_eq_false_iff_ne.mpr c3
      (try have c3e0 : a0.toList.isEmpty = false := by simpa using c3)
      (try have c3e1 : (!a0.toList.isEmpty) = true := by simpa using c3)
      have c3b1 : (a0.toList != ([] : List UInt8)) = true := bne_iff_ne.mpr c3
      (first | rw [c3b0] | (simp only [i64_w, i32_w]; rw [c3b0]) | rw [c3e1] | rw [c3e0] | skip)
      by_cases c4 : 0 < (a0.size : Int)
      · rw [if_pos c4] at H
        have c4b0 : decide (0 < (a0.size : Int)) = true := decide_eq_true c4
        have c4b1 : decide (0 < a0.size) = true := decide_eq_true (by omega)
        clear c4
        have H' := Aside0.mk H
        clear H
        have p5 : 0 ≤ (0 : Int) := (by omega)
        have q5 : 0 < a0.size := (by have : (0 : Int) < (a0.size : Int) := of_decide_eq_true (by first | (with_reducible assumption) | assumption); omega)
        have hx5 : ∀ h : 0 < a0.size, ((a0[0]'h).toNat : Int) = bt a0 0 := bt_at a0 0
        clear p5
        have qi5 : (0 < (a0.size : Int)) = True := eq_true (of_decide_eq_true (by first | (with_reducible assumption) | assumption))
        replace q5 := eq_true q5
        go_wp2
        go_meet
        case rel => exact ⟨_, (((bt a0 0) != 47)), (by first | rfl | (simp; done) | (simp [*]; done)), H', ⟨by first | omega | exact Nat.le_refl _⟩, ⟨by repeat (first | (with_reducible first | exact HB.out | apply below_alloc | apply pw_below_drewN | apply below_drew1) | exact HB.out)⟩⟩
      · rw [if_neg c4] at H
        exact absurd H (by simp)
  case rest =>
    clear HC2
    try clear c1
    try clear p2
    try clear c3
    try clear c3b0
    try clear c3b1
    try clear c4
    try clear c4b0
    try clear c4b1
    try clear p5
    try clear q5
    try clear hx5
    try clear qi5
    try clear p5
    try clear q5
    obtain ⟨kq, x13_1, rfl, HA, HJ1, HB⟩ := hcut
    cases kq with
    | zero => exact absurd HA.out (by simp [groupcontrolref1_Split.j0])
    | succ kj1 =>
      have H := HA.out
      clear HA
      simp only [groupcontrolref1_Split.j0] at H
      by_cases c6 : x13_1 = true
      · subst c6
        have H1 : (some (([] : List ByteArray), 2)) = some (r1, r2) := by rw [if_pos rfl] at H; exact H
        clear H
        have H := H1
        clear H1
        simp only [Option.some.injEq, Prod.mk.injEq] at H
        obtain ⟨rfl, rfl⟩ := H
        go_wp2
        go_ret2
        exact ⟨_, by first | rfl | (simp [errW_none, errW_some] <;> rfl) | (simp [*, errW_none, errW_some] <;> rfl), by first | exact Kd.R_nil _ _ _ _ _ | exact Kd.N_nil _ _ _ _ _ | exact Kd.V_nil _ _ _ _ _ | exact Kd.Q_nil _ _ _ _ _ | exact Kd.S_nil _ _ _ _ _, by repeat (first | (with_reducible first | exact HB.out | apply below_alloc | apply pw_below_drewN | apply below_drew1) | exact HB.out)⟩
      · replace c6 := Bool.eq_false_iff.mpr c6
        subst c6
        have H1 : (if a0.toList = ([47] : List UInt8) then (some (([] : List ByteArray), 0)) else (groupcontrolref1_Split.l0 kj1 a0 ([] : List ByteArray) (⟨#[]⟩ : ByteArray) 1)) = some (r1, r2) := by rw [if_neg (show ¬ (false = true) by decide)] at H; exact H
        clear H
        have H := H1
        clear H1
        by_cases c7 : a0.toList = ([47] : List UInt8)
        · rw [if_pos c7] at H
          have c7b0 : (a0.toList == ([47] : List UInt8)) = true := beq_iff_eq.mpr c7
          have c7b1 : (a0.toList != ([47] : List UInt8)) = false := bne_eq_false_iff_eq.mpr c7
          clear c7
          simp only [Option.some.injEq, Prod.mk.injEq] at H
          obtain ⟨rfl, rfl⟩ := H
          go_wp2
          go_ret2
          exact ⟨_, by first | rfl | (simp [errW_none, errW_some] <;> rfl) | (simp [*, errW_none, errW_some] <;> rfl), by first | exact Kd.R_nil _ _ _ _ _ | exact Kd.N_nil _ _ _ _ _ | exact Kd.V_nil _ _ _ _ _ | exact Kd.Q_nil _ _ _ _ _ | exact Kd.S_nil _ _ _ _ _, by repeat (first | (with_reducible first | exact HB.out | apply below_alloc | apply pw_below_drewN | apply below_drew1) | exact HB.out)⟩
        · rw [if_neg c7] at H
          have c7b0 : (a0.toList == ([47] : List UInt8)) = false := beq_eq_false_iff_ne.mpr c7
          have c7b1 : (a0.toList != ([47] : List UInt8)) = true := bne_iff_ne.mpr c7
          have H' := Aside0.mk H
          clear H
          go_wp2
          go_loopg [4, 5, 6] kj1 (fun kq v4 v5 v6 w' => ∃ (x4_2 : List ByteArray) (x5_2 : ByteArray) (x6_2 : Int), v5 = .string x5_2 ∧ v6 = .int .i64 x6_2 ∧ Aside0 (groupcontrolref1_Split.l0 kq a0 x4_2 x5_2 x6_2 = some (r1, r2)) ∧ Aside0 (kq ≤ kj1) ∧ Aside0 (Kd.R Kd.string 9 w' w.heap.size (fun _ => True) v4 x4_2) ∧ Aside0 (Below w.heap.size w w'))
          case atStart => exact ⟨(([] : List ByteArray)), ((⟨#[]⟩ : ByteArray)), (1), (by first | rfl | (simp; done) | (simp [*]; done)), (by first | rfl | (simp; done) | (simp [*]; done)), H', ⟨Nat.le_refl _⟩, ⟨by first | exact Kd.R_nil _ _ _ _ _ | exact Kd.N_nil _ _ _ _ _ | exact Kd.V_nil _ _ _ _ _ | exact Kd.Q_nil _ _ _ _ _ | exact Kd.S_nil _ _ _ _ _⟩, ⟨by repeat (first | (with_reducible first | exact HB.out | apply below_alloc | apply pw_below_drewN | apply below_drew1) | exact HB.out)⟩⟩
          case round =>
            clear H'
            try clear c1
            try clear p2
            try clear c3
            try clear c3b0
            try clear c3b1
            try clear c4
            try clear c4b0
            try clear c4b1
            try clear p5
            try clear q5
            try clear hx5
            try clear qi5
            try clear c6
            try clear c7
            try clear c7b0
            try clear c7b1
            try clear p2
            try clear p5
            try clear q5
            obtain ⟨x4_2, x5_2, x6_2, rfl, rfl, HA, HK2, HO_4, HB⟩ := hrel
            cases gk with
            | zero => exact absurd HA.out (by simp [groupcontrolref1_Split.l0])
            | succ k2 =>
              have H := HA.out
              clear HA
              simp only [groupcontrolref1_Split.l0] at H
              by_cases c8 : x6_2 ≤ (a0.size : Int)
              · rw [if_pos c8] at H
                have c8b0 : decide (x6_2 ≤ (a0.size : Int)) = true := decide_eq_true c8
                clear c8
                have HC9 := Aside0.mk H
                clear H
                go_upto_region 10 with (fail)
                go_cut [31] (fun v31 wc => ∃ (kq : Nat) (x31_8 : Bool), v31 = .bool x31_8 ∧ Aside0 (groupcontrolref1_Split.j2 kq a0 x4_2 x5_2 x6_2 x31_8 = some (r1, r2)) ∧ Aside0 (kq ≤ k2) ∧ Aside0 (Kd.R Kd.string 9 wc w.heap.size (fun _ => True) u4 x4_2) ∧ Aside0 (Below w.heap.size w wc))
                case first =>
                  have H := HC9.out
                  clear HC9
                  by_cases c10 : x6_2 < (a0.size : Int)
                  · rw [if_pos c10] at H
                    have c10b0 : decide (x6_2 < (a0.size : Int)) = true := decide_eq_true c10
                    clear c10
                    (first | rw [c10b0] | (simp only [i64_w, i32_w]; rw [c10b0]) | skip)
                    by_cases c11 : 0 ≤ x6_2
                    · rw [if_pos c11] at H
                      have c11b0 : decide (0 ≤ x6_2) = true := decide_eq_true c11
                      clear c11
                      have H' := Aside0.mk H
                      clear H
                      have p12 : 0 ≤ (x6_2 : Int) := of_decide_eq_true (by first | (with_reducible assumption) | assumption)
                      have q12 : x6_2 < (a0.size : Int) := of_decide_eq_true (by first | (with_reducible assumption) | assumption)
                      have hx12 := bt_at a0 x6_2
                      replace p12 := eq_true p12
                      replace q12 := eq_true q12
                      go_wp2
                      go_meet
                      case rel => exact ⟨_, (((bt a0 x6_2) != 47)), (by first | rfl | (simp; done) | (simp [*]; done)), H', ⟨by have := HJ1.out; have := HK2.out; first | omega | exact Nat.le_refl _⟩, ⟨by (with_reducible repeat (first | apply Kd.R_alloc | apply Kd.R_drewN | apply Kd.R_drew)); exact HO_4.out⟩, ⟨by repeat (first | (with_reducible first | exact HB.out | apply below_alloc | apply pw_below_drewN | apply below_drew1) | exact HB.out)⟩⟩
                    · rw [if_neg c11] at H
                      exact absurd H (by simp)
                  · rw [if_neg c10] at H
                    have c10b0 : decide (x6_2 < (a0.size : Int)) = false := decide_eq_false c10
                    clear c10
                    (first | rw [c10b0] | (simp only [i64_w, i32_w]; rw [c10b0]) | skip)
                    have H' := Aside0.mk H
                    clear H
                    go_wp2
                    go_meet
                    case rel => exact ⟨_, (false), (by first | rfl | (simp; done) | (simp [*]; done)), H', ⟨by have := HJ1.out; have := HK2.out; first | omega | exact Nat.le_refl _⟩, ⟨by (with_reducible repeat (first | apply Kd.R_alloc | apply Kd.R_drewN | apply Kd.R_drew)); exact HO_4.out⟩, ⟨by repeat (first | (with_reducible first | exact HB.out | apply below_alloc | apply pw_below_drewN | apply below_drew1) | exact HB.out)⟩⟩
                case rest =>
                  clear HC9
                  try clear c1
                  try clear p1
                  try clear q1
                  try clear hx1
                  try clear p2
                  try clear c3
                  try clear c3b0
                  try clear c3b1
                  try clear c4
                  try clear c4b0
                  try clear c4b1
                  try clear p5
                  try clear q5
                  try clear hx5
                  try clear qi5
                  try clear c6
                  try clear c7
                  try clear c7b0
                  try clear c7b1
                  try clear c8
                  try clear c8b0
                  try clear c10
                  try clear c10b0
                  try clear c11
                  try clear c11b0
                  try clear p12
                  try clear q12
                  try clear hx12
                  try clear p12
                  try clear p2
                  try clear p5
                  try clear q12
                  try clear q5
                  obtain ⟨kq, x31_8, rfl, HA, HJ8, HO_4, HB⟩ := hcut
                  cases kq with
                  | zero => exact absurd HA.out (by simp [groupcontrolref1_Split.j2])
                  | succ kj8 =>
                    have H := HA.out
                    clear HA
                    simp only [groupcontrolref1_Split.j2] at H
                    by_cases c13 : x31_8 = true
                    · subst c13
                      have H1 : (if 0 ≤ x6_2 then (if x6_2 ≤ (wrap64 (x6_2 + 1)) then (if (wrap64 (x6_2 + 1)) ≤ (a0.size : Int) then (if x5_2.size + (a0.extract (x6_2 : Int).toNat ((wrap64 (x6_2 + 1)) : Int).toNat).size ≤ 9223372036854775807 then (groupcontrolref1_Split.l0 kj8 a0 x4_2 (x5_2 ++ (a0.extract (x6_2 : Int).toNat ((wrap64 (x6_2 + 1)) : Int).toNat)) (wrap64 (x6_2 + 1))) else (none)) else (none)) else (none)) else (none)) = some (r1, r2) := by rw [if_pos rfl] at H; exact H
                      clear H
                      have H := H1
                      clear H1
                      by_cases c14 : 0 ≤ x6_2
                      · rw [if_pos c14] at H
                        have c14b0 := eq_true c14
                        have c14b1 : decide (0 ≤ x6_2) = true := decide_eq_true c14
                        clear c14
                        by_cases c15 : x6_2 ≤ (wrap64 (x6_2 + 1))
                        · rw [if_pos c15] at H
                          have c15b0 := eq_true c15
                          have c15b1 : decide (x6_2 ≤ (wrap64 (x6_2 + 1))) = true := decide_eq_true c15
                          by_cases c16 : (wrap64 (x6_2 + 1)) ≤ (a0.size : Int)
                          · rw [if_pos c16] at H
                            have c16b0 := eq_true c16
                            have c16b1 : decide ((wrap64 (x6_2 + 1)) ≤ (a0.size : Int)) = true := decide_eq_true c16
                            by_cases c17 : x5_2.size + (a0.extract (x6_2 : Int).toNat ((wrap64 (x6_2 + 1)) : Int).toNat).size ≤ 9223372036854775807
                            · rw [if_pos c17] at H
                              have c17b0 := eq_true c17
                              have c17b1 : decide (x5_2.size + (a0.extract (x6_2 : Int).toNat ((wrap64 (x6_2 + 1)) : Int).toNat).size ≤ 9223372036854775807) = true := decide_eq_true c17
                              try have c17b2 : (9223372036854775807 < x5_2.size + (a0.extract (x6_2 : Int).toNat ((wrap64 (x6_2 + 1)) : Int).toNat).size) = False := eq_false (Nat.not_lt.2 c17)
                              have H' := Aside0.mk H
                              clear H
                              go_wp2
                              go_roundg kj8
                              case measure => have := HJ1.out; have := HK2.out; have := HJ8.out; omega
                              case rel => exact ⟨(x4_2), (x5_2 ++ (a0.extract (x6_2 : Int).toNat ((wrap64 (x6_2 + 1)) : Int).toNat)), (wrap64 (x6_2 + 1)), (by first | rfl | (simp; done) | (simp [*]; done)), (by first | rfl | (simp; done) | (simp [*]; done)), H', ⟨by have := HJ1.out; have := HK2.out; have := HJ8.out; omega⟩, ⟨by (with_reducible repeat (first | apply Kd.R_alloc | apply Kd.R_drewN | apply Kd.R_drew)); exact HO_4.out⟩, ⟨by repeat (first | (with_reducible first | exact HB.out | apply below_alloc | apply pw_below_drewN | apply below_drew1) | exact HB.out)⟩⟩
                            · rw [if_neg c17] at H
                              exact absurd H (by simp)
                          · rw [if_neg c16] at H
                            exact absurd H (by simp)
                        · rw [if_neg c15] at H
                          exact absurd H (by simp)
                      · rw [if_neg c14] at H
                        exact absurd H (by simp)
                    · replace c13 := Bool.eq_false_iff.mpr c13
                      subst c13
                      have H1 : ((groupcontrolref1_Valid.f kj8 x5_2).bind fun t160 => (if t160 = true then (if x4_2.length < 8796093022208 then (groupcontrolref1_Split.l0 kj8 a0 (x4_2 ++ [x5_2]) (⟨#[]⟩ : ByteArray) (wrap64 (x6_2 + 1))) else (none)) else (some (([] : List ByteArray), 2)))) = some (r1, r2) := by rw [if_neg (show ¬ (false = true) by decide)] at H; exact H
                      clear H
                      have H := H1
                      clear H1
                      replace H := Option.bind_eq_some_iff.mp H
                      obtain ⟨t160, A180, H⟩ := H
                      replace H : (if t160 = true then (if x4_2.length < 8796093022208 then (groupcontrolref1_Split.l0 kj8 a0 (x4_2 ++ [x5_2]) (⟨#[]⟩ : ByteArray) (wrap64 (x6_2 + 1))) else (none)) else (some (([] : List ByteArray), 2))) = some (r1, r2) := H
                      have A18 := Aside0.mk A180
                      clear A180
                      by_cases c19 : t160 = true
                      · subst c19
                        have H1 : (if x4_2.length < 8796093022208 then (groupcontrolref1_Split.l0 kj8 a0 (x4_2 ++ [x5_2]) (⟨#[]⟩ : ByteArray) (wrap64 (x6_2 + 1))) else (none)) = some (r1, r2) := by rw [if_pos rfl] at H; exact H
                        clear H
                        have H := H1
                        clear H1
                        by_cases c20 : x4_2.length < 8796093022208
                        · rw [if_pos c20] at H
                          have LMc20 := Aside0.mk c20
                          clear c20
                          obtain ⟨y161, hy161⟩ : ∃ y_ : List ByteArray, y_ = (x4_2 ++ [x5_2]) := ⟨_, rfl⟩
                          replace H : (groupcontrolref1_Split.l0 kj8 a0 y161 (⟨#[]⟩ : ByteArray) (wrap64 (x6_2 + 1))) = some (r1, r2) := by first | (rw [hy161]; with_reducible exact H) | (have H2_ := (Option.bind_some _ _).symm.trans H; rw [hy161]; with_reducible exact H2_) | (have H2_ := (Option.bind_some _ _).symm.trans H; with_reducible exact H2_) | with_reducible exact H | (rw [hy161]; exact H) | exact H
                          have Ny161 := Aside0.mk hy161
                          clear hy161
                          have H' := Aside0.mk H
                          clear H
                          go_wp2_with (first | ((with_reducible refine gate_callee (f := 17) rfl ?_); refine goesL_ (some 40) rfl rfl Tryd.func17 (by kernel_rfl) rfl #[.string x5_2] rfl (by (try simp only [List.map_toArray, List.map_cons, List.map_nil]); first | done | rfl | (simp only [List.length_drop, List.length_take]; rfl)) ?_; (with_reducible refine (groupcontrolref1_Valid.calls kj8 x5_2 true _ A18.out).mono ?_); rintro e w' ⟨rfl, ⟨nd, rfl⟩⟩; refine ⟨_, rfl, ?_⟩) | ((with_reducible refine gate_builtin (b := .append) (xs := #[.tmp 42, .tmp 44]) rfl ?_); at_builtin; refine Kd.R_append Kd.string (w0 := w) w.heap.size rfl (.tmp 42) (.tmp 44) 22 9 (.string ⟨#[]⟩) 16 rfl Tryd.underlying22 info9 rfl (by decide) (by omega) u4 x4_2 x5_2 [.string x5_2] (fun _ => True) (fun _ => False) rfl rfl ?aP (fun _ hk => hk.elim) ?aF ?aO ?aB ?aS ?aL ?_; (case aP => exact rfl); (case aB => exact (by repeat (first | (with_reducible first | exact HB.out | apply below_alloc | apply pw_below_drewN | apply below_drew1) | exact HB.out))); (case aF => exact (fun _ _ => trivial)); (case aO => exact (by (with_reducible repeat (first | apply Kd.R_alloc | apply Kd.R_drewN | apply Kd.R_drew)); exact HO_4.out)); (case aS => exact (below_size (by repeat (first | (with_reducible first | exact HB.out | apply below_alloc | apply pw_below_drewN | apply below_drew1) | exact HB.out)))); (case aL => have := LMc20.out; omega); intro v162 w21 ho hb hg hat; rw [← Ny161.out] at ho; have n0_ := Aside0.mk (hb); have n1_ := Aside0.mk (ho); clear HB; clear HO_4; have HB := n0_; have HO163 := n1_; clear n0_ n1_; clear ho hb hg hat))
                          go_roundg kj8
                          case measure => have := HJ1.out; have := HK2.out; have := HJ8.out; omega
                          case rel => exact ⟨(y161), ((⟨#[]⟩ : ByteArray)), (wrap64 (x6_2 + 1)), (by first | rfl | (simp; done) | (simp [*]; done)), (by first | rfl | (simp; done) | (simp [*]; done)), H', ⟨by have := HJ1.out; have := HK2.out; have := HJ8.out; omega⟩, ⟨by (with_reducible repeat (first | apply Kd.R_alloc | apply Kd.R_drewN | apply Kd.R_drew)); exact HO163.out⟩, ⟨by repeat (first | (with_reducible first | exact HB.out | apply below_alloc | apply pw_below_drewN | apply below_drew1) | exact HB.out)⟩⟩
                        · rw [if_neg c20] at H
                          exact absurd H (by simp)
                      · replace c19 := Bool.eq_false_iff.mpr c19
                        subst c19
                        have H1 : (some (([] : List ByteArray), 2)) = some (r1, r2) := by rw [if_neg (show ¬ (false = true) by decide)] at H; exact H
                        clear H
                        have H := H1
                        clear H1
                        simp only [Option.some.injEq, Prod.mk.injEq] at H
                        obtain ⟨rfl, rfl⟩ := H
                        go_wp2_with (first | ((with_reducible refine gate_callee (f := 17) rfl ?_); refine goesL_ (some 40) rfl rfl Tryd.func17 (by kernel_rfl) rfl #[.string x5_2] rfl (by (try simp only [List.map_toArray, List.map_cons, List.map_nil]); first | done | rfl | (simp only [List.length_drop, List.length_take]; rfl)) ?_; (with_reducible refine (groupcontrolref1_Valid.calls kj8 x5_2 false _ A18.out).mono ?_); rintro e w' ⟨rfl, ⟨nd, rfl⟩⟩; refine ⟨_, rfl, ?_⟩))
                        go_ret2
                        exact ⟨_, by first | rfl | (simp [errW_none, errW_some] <;> rfl) | (simp [*, errW_none, errW_some] <;> rfl), by first | exact Kd.R_nil _ _ _ _ _ | exact Kd.N_nil _ _ _ _ _ | exact Kd.V_nil _ _ _ _ _ | exact Kd.Q_nil _ _ _ _ _ | exact Kd.S_nil _ _ _ _ _, by repeat (first | (with_reducible first | exact HB.out | apply below_alloc | apply pw_below_drewN | apply below_drew1) | exact HB.out)⟩
              · rw [if_neg c8] at H
                have c8b0 : decide (x6_2 ≤ (a0.size : Int)) = false := decide_eq_false c8
                clear c8
                by_cases c22 : (x4_2.length : Int) > 8
                · rw [if_pos c22] at H
                  have c22b0 : decide (8 < (x4_2.length : Int)) = true := decide_eq_true c22
                  have c22b1 : decide (8 < x4_2.length) = true := decide_eq_true (by omega)
                  clear c22
                  simp only [Option.some.injEq, Prod.mk.injEq] at H
                  obtain ⟨rfl, rfl⟩ := H
                  obtain ⟨Ao23, co23, eo23⟩ := Kd.R_slice HO_4.out
                  subst eo23
                  go_wp2
                  go_ret2
                  exact ⟨_, by first | rfl | (simp [errW_none, errW_some] <;> rfl) | (simp [*, errW_none, errW_some] <;> rfl), by first | exact Kd.R_nil _ _ _ _ _ | exact Kd.N_nil _ _ _ _ _ | exact Kd.V_nil _ _ _ _ _ | exact Kd.Q_nil _ _ _ _ _ | exact Kd.S_nil _ _ _ _ _, by repeat (first | (with_reducible first | exact HB.out | apply below_alloc | apply pw_below_drewN | apply below_drew1) | exact HB.out)⟩
                · rw [if_neg c22] at H
                  have c22b0 : decide (8 < (x4_2.length : Int)) = false := decide_eq_false c22
                  have c22b1 : decide (8 < x4_2.length) = false := decide_eq_false (by omega)
                  clear c22
                  simp only [Option.some.injEq, Prod.mk.injEq] at H
                  obtain ⟨rfl, rfl⟩ := H
                  obtain ⟨Ao24, co24, eo24⟩ := Kd.R_slice HO_4.out
                  subst eo24
                  go_wp2
                  go_ret2
                  exact ⟨_, by first | rfl | (simp [errW_none, errW_some] <;> rfl) | (simp [*, errW_none, errW_some] <;> rfl), by (with_reducible repeat (first | apply Kd.R_alloc | apply Kd.R_drewN | apply Kd.R_drew)); exact HO_4.out, by repeat (first | (with_reducible first | exact HB.out | apply below_alloc | apply pw_below_drewN | apply below_drew1) | exact HB.out)⟩

end Go.Proofs.YtjpbdkfgblmioaaDoor.PA
