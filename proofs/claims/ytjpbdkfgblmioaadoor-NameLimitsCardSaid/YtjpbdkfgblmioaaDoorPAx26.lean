/- Contracts of functions of the program and of its references, over the translation, for values that can be read as data: each call comes to what a Lean function says. Written by the kit's printer and a program of this session's, with hand-made contracts spliced in. -/
import Derived.Test.YtjpbdkfgblmioaaDoorPAx0
import Derived.Test.YtjpbdkfgblmioaaDoorPAx6
import Derived.Test.YtjpbdkfgblmioaaDoorPAx8
import Derived.Test.YtjpbdkfgblmioaaDoorPAx10
import Derived.Test.YtjpbdkfgblmioaaDoorPAx13
namespace Go.Proofs.YtjpbdkfgblmioaaDoor.PA
open Go.RowKit Go.Proofs.YtjpbdkfgblmioaaDoorW.PrintWords Go.Proofs.YtjpbdkfgblmioaaDoorW.PrintLast Go.Proofs.YtjpbdkfgblmioaaDoorW.PrintMore
attribute [local go_sem] max2_int min2_int max_two min_two max_three min_three max_four min_four   -- for this text's walks alone
set_option linter.unusedVariables false
set_option linter.unusedSimpArgs false

/-! ### groupcontrollaw1_NameLimits: function 3 -/
mutual
def groupcontrollaw1_NameLimits.l0 : Nat → Int → Int → ByteArray → ByteArray → Int → Option (Bool)
  | 0, _, _, _, _, _ => none
  | k + 1, x5, x6, x7, x8, x10 => if x10 < x5 then (if x7.size + 1 ≤ 9223372036854775807 then (groupcontrollaw1_NameLimits.l0 k x5 x6 (x7 ++ (⟨#[97]⟩ : ByteArray)) x8 (wrap64 (x10 + 1))) else (none)) else (groupcontrollaw1_NameLimits.l1 k x5 x6 x7 x8 ([] : List ByteArray) 0)
def groupcontrollaw1_NameLimits.l1 : Nat → Int → Int → ByteArray → ByteArray → List ByteArray → Int → Option (Bool)
  | 0, _, _, _, _, _, _ => none
  | k + 1, x5, x6, x7, x8, x9, x11 => if x11 < x6 then (if x8.size + 2 ≤ 9223372036854775807 then (if x9.length < 8796093022208 then (groupcontrollaw1_NameLimits.l1 k x5 x6 x7 (x8 ++ (⟨#[47, 98]⟩ : ByteArray)) (x9 ++ [(⟨#[98]⟩ : ByteArray)]) (wrap64 (x11 + 1))) else (none)) else (none)) else ((name_Split.f x8).bind fun bt233 => ((name_Join.f x9).bind fun bt237 => (if x6 > 8 then (groupcontrollaw1_NameLimits.j2 k x5 x6 x7 bt233.2 bt237.2 7) else (groupcontrollaw1_NameLimits.j2 k x5 x6 x7 bt233.2 bt237.2 0))))
def groupcontrollaw1_NameLimits.j2 : Nat → Int → Int → ByteArray → Int → Int → Int → Option (Bool)
  | 0, _, _, _, _, _, _ => none
  | k + 1, x5, x6, x7, x13, x15, x16 => if x6 > 0 then (if x13 = x16 then (groupcontrollaw1_NameLimits.j3 k x5 x7 (x15 != x16)) else (groupcontrollaw1_NameLimits.j3 k x5 x7 true)) else (groupcontrollaw1_NameLimits.j3 k x5 x7 (x15 != x16))
def groupcontrollaw1_NameLimits.j3 : Nat → Int → ByteArray → Bool → Option (Bool)
  | 0, _, _, _ => none
  | k + 1, x5, x7, x63 => if x63 = true then (some false) else ((name_Valid.f x7).bind fun t239 => (if x5 ≥ 1 then (if (t239 == (decide (x5 ≤ 32))) = true then ((groupcontrollaw1_sane.f).bind fun t240 => (some t240)) else (some false)) else (if (t239 == false) = true then ((groupcontrollaw1_sane.f).bind fun t241 => (some t241)) else (some false))))
end
def groupcontrollaw1_NameLimits.f (k : Nat) (a0 : Int) (a1 : Int) : Option (Bool) := groupcontrollaw1_NameLimits.l0 k (Int.tmod (wrap64 (a0)) 64) (Int.tmod (wrap64 (a1)) 16) (⟨#[]⟩ : ByteArray) (⟨#[]⟩ : ByteArray) 0
theorem groupcontrollaw1_NameLimits.mono_l : ∀ k, (∀ y0 y1 y2 y3 y4, LeO (groupcontrollaw1_NameLimits.l0 k y0 y1 y2 y3 y4) (groupcontrollaw1_NameLimits.l0 (k + 1) y0 y1 y2 y3 y4)) ∧ (∀ y0 y1 y2 y3 y4 y5, LeO (groupcontrollaw1_NameLimits.l1 k y0 y1 y2 y3 y4 y5) (groupcontrollaw1_NameLimits.l1 (k + 1) y0 y1 y2 y3 y4 y5)) ∧ (∀ y0 y1 y2 y3 y4 y5, LeO (groupcontrollaw1_NameLimits.j2 k y0 y1 y2 y3 y4 y5) (groupcontrollaw1_NameLimits.j2 (k + 1) y0 y1 y2 y3 y4 y5)) ∧ (∀ y0 y1 y2, LeO (groupcontrollaw1_NameLimits.j3 k y0 y1 y2) (groupcontrollaw1_NameLimits.j3 (k + 1) y0 y1 y2))
  | 0 => ⟨fun _ _ _ _ _ r h => by simp [groupcontrollaw1_NameLimits.l0] at h, fun _ _ _ _ _ _ r h => by simp [groupcontrollaw1_NameLimits.l1] at h, fun _ _ _ _ _ _ r h => by simp [groupcontrollaw1_NameLimits.j2] at h, fun _ _ _ r h => by simp [groupcontrollaw1_NameLimits.j3] at h⟩
  | k + 1 => by
    obtain ⟨ih0, ih1, ih2, ih3⟩ := groupcontrollaw1_NameLimits.mono_l k
    refine ⟨?_, ?_, ?_, ?_⟩
    · intro y0 y1 y2 y3 y4
      unfold groupcontrollaw1_NameLimits.l0
      repeat' first
      | (with_reducible exact ih0 _ _ _ _ _)
      | (with_reducible exact ih1 _ _ _ _ _ _)
      | (with_reducible exact ih2 _ _ _ _ _ _)
      | (with_reducible exact ih3 _ _ _)
      | (with_reducible exact LeO.refl _)
      | (with_reducible exact LeO.none _)
      | (with_reducible refine LeO.ite ?_ ?_)
      | (with_reducible refine LeO.bind ?_ (fun _ => ?_))
      | exact ih0 _ _ _ _ _
      | exact ih1 _ _ _ _ _ _
      | exact ih2 _ _ _ _ _ _
      | exact ih3 _ _ _
      | exact LeO.none _
      | refine LeO.ite ?_ ?_
      | refine LeO.bind ?_ (fun _ => ?_)
    · intro y0 y1 y2 y3 y4 y5
      unfold groupcontrollaw1_NameLimits.l1
      repeat' first
      | (with_reducible exact ih0 _ _ _ _ _)
      | (with_reducible exact ih1 _ _ _ _ _ _)
      | (with_reducible exact ih2 _ _ _ _ _ _)
      | (with_reducible exact ih3 _ _ _)
      | (with_reducible exact LeO.refl _)
      | (with_reducible exact LeO.none _)
      | (with_reducible refine LeO.ite ?_ ?_)
      | (with_reducible refine LeO.bind ?_ (fun _ => ?_))
      | exact ih0 _ _ _ _ _
      | exact ih1 _ _ _ _ _ _
      | exact ih2 _ _ _ _ _ _
      | exact ih3 _ _ _
      | exact LeO.none _
      | refine LeO.ite ?_ ?_
      | refine LeO.bind ?_ (fun _ => ?_)
    · intro y0 y1 y2 y3 y4 y5
      unfold groupcontrollaw1_NameLimits.j2
      repeat' first
      | (with_reducible exact ih0 _ _ _ _ _)
      | (with_reducible exact ih1 _ _ _ _ _ _)
      | (with_reducible exact ih2 _ _ _ _ _ _)
      | (with_reducible exact ih3 _ _ _)
      | (with_reducible exact LeO.refl _)
      | (with_reducible exact LeO.none _)
      | (with_reducible refine LeO.ite ?_ ?_)
      | (with_reducible refine LeO.bind ?_ (fun _ => ?_))
      | exact ih0 _ _ _ _ _
      | exact ih1 _ _ _ _ _ _
      | exact ih2 _ _ _ _ _ _
      | exact ih3 _ _ _
      | exact LeO.none _
      | refine LeO.ite ?_ ?_
      | refine LeO.bind ?_ (fun _ => ?_)
    · intro y0 y1 y2
      unfold groupcontrollaw1_NameLimits.j3
      repeat' first
      | (with_reducible exact ih0 _ _ _ _ _)
      | (with_reducible exact ih1 _ _ _ _ _ _)
      | (with_reducible exact ih2 _ _ _ _ _ _)
      | (with_reducible exact ih3 _ _ _)
      | (with_reducible exact LeO.refl _)
      | (with_reducible exact LeO.none _)
      | (with_reducible refine LeO.ite ?_ ?_)
      | (with_reducible refine LeO.bind ?_ (fun _ => ?_))
      | exact ih0 _ _ _ _ _
      | exact ih1 _ _ _ _ _ _
      | exact ih2 _ _ _ _ _ _
      | exact ih3 _ _ _
      | exact LeO.none _
      | refine LeO.ite ?_ ?_
      | refine LeO.bind ?_ (fun _ => ?_)
theorem groupcontrollaw1_NameLimits.mono : ∀ a0 a1 k, LeO (groupcontrollaw1_NameLimits.f k a0 a1) (groupcontrollaw1_NameLimits.f (k + 1) a0 a1) := by
  intro a0 a1 k
  obtain ⟨ih0, ih1, ih2, ih3⟩ := groupcontrollaw1_NameLimits.mono_l k
  unfold groupcontrollaw1_NameLimits.f
  repeat' first
      | (with_reducible exact ih0 _ _ _ _ _)
      | (with_reducible exact ih1 _ _ _ _ _ _)
      | (with_reducible exact ih2 _ _ _ _ _ _)
      | (with_reducible exact ih3 _ _ _)
      | (with_reducible exact LeO.refl _)
      | (with_reducible exact LeO.none _)
      | (with_reducible refine LeO.ite ?_ ?_)
      | (with_reducible refine LeO.bind ?_ (fun _ => ?_))
      | exact ih0 _ _ _ _ _
      | exact ih1 _ _ _ _ _ _
      | exact ih2 _ _ _ _ _ _
      | exact ih3 _ _ _
      | exact LeO.none _
      | refine LeO.ite ?_ ?_
      | refine LeO.bind ?_ (fun _ => ?_)
set_option maxHeartbeats 8000000 in
set_option maxRecDepth 100000 in
theorem groupcontrollaw1_NameLimits.calls (k : Nat) (a0 : Int) (a1 : Int) (r : Bool) (w : World) (h : groupcontrollaw1_NameLimits.f k a0 a1 = some r) :
    Calls Tryd.prog 3 #[.int .u8 a0, .int .u8 a1] w fun e w' => e = .returned (.bool r) ∧ Below w.heap.size w w' := by
  have HB := Aside0.mk (Below.refl w.heap.size w)
  have H : (groupcontrollaw1_NameLimits.l0 k (Int.tmod (wrap64 (a0)) 64) (Int.tmod (wrap64 (a1)) 16) (⟨#[]⟩ : ByteArray) (⟨#[]⟩ : ByteArray) 0) = some r := h
  clear h
  have H' := Aside0.mk H
  clear H
  go_enter Tryd.func3, Tryd.ntmps3
  go_wp2
  go_loopg [7, 10] k (fun kq v7 v10 w' => ∃ (x7_1 : ByteArray) (x10_1 : Int), v7 = .string x7_1 ∧ v10 = .int .i64 x10_1 ∧ Aside0 (groupcontrollaw1_NameLimits.l0 kq (Int.tmod (wrap64 (a0)) 64) (Int.tmod (wrap64 (a1)) 16) x7_1 (⟨#[]⟩ : ByteArray) x10_1 = some r) ∧ Aside0 (kq ≤ k) ∧ Aside0 (Below w.heap.size w w'))
  case atStart => exact ⟨((⟨#[]⟩ : ByteArray)), (0), (by first | rfl | (simp; done) | (simp [*]; done)), (by first | rfl | (simp; done) | (simp [*]; done)), H', ⟨Nat.le_refl _⟩, ⟨by repeat (first | (with_reducible first | exact HB.out | apply below_alloc | apply pw_below_drewN | apply below_drew1) | exact HB.out)⟩⟩
  case round =>
    clear H'
    try clear p2
    obtain ⟨x7_1, x10_1, rfl, rfl, HA, HK1, HB⟩ := hrel
    cases gk with
    | zero => exact absurd HA.out (by simp [groupcontrollaw1_NameLimits.l0])
    | succ k1 =>
      have H := HA.out
      clear HA
      simp only [groupcontrollaw1_NameLimits.l0] at H
      by_cases c3 : x10_1 < (Int.tmod (wrap64 (a0)) 64)
      · rw [if_pos c3] at H
        have c3b0 : decide (x10_1 < (Int.tmod (wrap64 (a0)) 64)) = true := decide_eq_true c3
        clear c3
        by_cases c4 : x7_1.size + 1 ≤ 9223372036854775807
        · rw [if_pos c4] at H
          have c4b0 := eq_true c4
          have c4b1 : decide (x7_1.size + 1 ≤ 9223372036854775807) = true := decide_eq_true c4
          try have c4b2 : (9223372036854775807 < x7_1.size + 1) = False := eq_false (Nat.not_lt.2 c4)
          have H' := Aside0.mk H
          clear H
          go_wp2
          go_roundg k1
          case measure => have := HK1.out; omega
          case rel => exact ⟨(x7_1 ++ (⟨#[97]⟩ : ByteArray)), (wrap64 (x10_1 + 1)), (by first | rfl | (simp; done) | (simp [*]; done)), (by first | rfl | (simp; done) | (simp [*]; done)), H', ⟨by have := HK1.out; omega⟩, ⟨by repeat (first | (with_reducible first | exact HB.out | apply below_alloc | apply pw_below_drewN | apply below_drew1) | exact HB.out)⟩⟩
        · rw [if_neg c4] at H
          exact absurd H (by simp)
      · rw [if_neg c3] at H
        have c3b0 : decide (x10_1 < (Int.tmod (wrap64 (a0)) 64)) = false := decide_eq_false c3
        clear c3
        have H' := Aside0.mk H
        clear H
        go_wp2
        go_loopg [8, 9, 11] k1 (fun kq v8 v9 v11 w' => ∃ (x8_2 : ByteArray) (x9_2 : List ByteArray) (x11_2 : Int), v8 = .string x8_2 ∧ v11 = .int .i64 x11_2 ∧ Aside0 (groupcontrollaw1_NameLimits.l1 kq (Int.tmod (wrap64 (a0)) 64) (Int.tmod (wrap64 (a1)) 16) x7_1 x8_2 x9_2 x11_2 = some r) ∧ Aside0 (kq ≤ k1) ∧ Aside0 (Kd.R Kd.string 9 w' w.heap.size (fun _ => True) v9 x9_2) ∧ Aside0 (Below w.heap.size w w'))
        case atStart => exact ⟨((⟨#[]⟩ : ByteArray)), (([] : List ByteArray)), (0), (by first | rfl | (simp; done) | (simp [*]; done)), (by first | rfl | (simp; done) | (simp [*]; done)), H', ⟨Nat.le_refl _⟩, ⟨by first | exact Kd.R_nil _ _ _ _ _ | exact Kd.N_nil _ _ _ _ _ | exact Kd.V_nil _ _ _ _ _ | exact Kd.Q_nil _ _ _ _ _ | exact Kd.S_nil _ _ _ _ _⟩, ⟨by repeat (first | (with_reducible first | exact HB.out | apply below_alloc | apply pw_below_drewN | apply below_drew1) | exact HB.out)⟩⟩
        case round =>
          clear H'
          try clear p2
          try clear c3
          try clear c3b0
          try clear c4
          try clear c4b0
          try clear c4b1
          try clear c4b2
          try clear p2
          obtain ⟨x8_2, x9_2, x11_2, rfl, rfl, HA, HK2, HO_9, HB⟩ := hrel
          cases gk with
          | zero => exact absurd HA.out (by simp [groupcontrollaw1_NameLimits.l1])
          | succ k2 =>
            have H := HA.out
            clear HA
            simp only [groupcontrollaw1_NameLimits.l1] at H
            by_cases c5 : x11_2 < (Int.tmod (wrap64 (a1)) 16)
            · rw [if_pos c5] at H
              have c5b0 : decide (x11_2 < (Int.tmod (wrap64 (a1)) 16)) = true := decide_eq_true c5
              clear c5
              by_cases c6 : x8_2.size + 2 ≤ 9223372036854775807
              · rw [if_pos c6] at H
                have c6b0 := eq_true c6
                have c6b1 : decide (x8_2.size + 2 ≤ 9223372036854775807) = true := decide_eq_true c6
                try have c6b2 : (9223372036854775807 < x8_2.size + 2) = False := eq_false (Nat.not_lt.2 c6)
                by_cases c7 : x9_2.length < 8796093022208
                · rw [if_pos c7] at H
                  have LMc7 := Aside0.mk c7
                  clear c7
                  obtain ⟨y230, hy230⟩ : ∃ y_ : List ByteArray, y_ = (x9_2 ++ [(⟨#[98]⟩ : ByteArray)]) := ⟨_, rfl⟩
                  replace H : (groupcontrollaw1_NameLimits.l1 k2 (Int.tmod (wrap64 (a0)) 64) (Int.tmod (wrap64 (a1)) 16) x7_1 (x8_2 ++ (⟨#[47, 98]⟩ : ByteArray)) y230 (wrap64 (x11_2 + 1))) = some r := by first | (rw [hy230]; with_reducible exact H) | (have H2_ := (Option.bind_some _ _).symm.trans H; rw [hy230]; with_reducible exact H2_) | (have H2_ := (Option.bind_some _ _).symm.trans H; with_reducible exact H2_) | with_reducible exact H | (rw [hy230]; exact H) | exact H
                  have Ny230 := Aside0.mk hy230
                  clear hy230
                  have H' := Aside0.mk H
                  clear H
                  go_wp2_with (first | ((with_reducible refine gate_builtin (b := .append) (xs := #[.tmp 37, .tmp 38]) rfl ?_); at_builtin; refine Kd.R_append Kd.string (w0 := w) w.heap.size rfl (.tmp 37) (.tmp 38) 22 9 (.string ⟨#[]⟩) 16 rfl Tryd.underlying22 info9 rfl (by decide) (by omega) u9 x9_2 (⟨#[98]⟩ : ByteArray) [.string (⟨#[98]⟩ : ByteArray)] (fun _ => True) (fun _ => False) rfl rfl ?aP (fun _ hk => hk.elim) ?aF ?aO ?aB ?aS ?aL ?_; (case aP => exact rfl); (case aB => exact (by repeat (first | (with_reducible first | exact HB.out | apply below_alloc | apply pw_below_drewN | apply below_drew1) | exact HB.out))); (case aF => exact (fun _ _ => trivial)); (case aO => exact (by (with_reducible repeat (first | apply Kd.R_alloc | apply Kd.R_drewN | apply Kd.R_drew)); exact HO_9.out)); (case aS => exact (below_size (by repeat (first | (with_reducible first | exact HB.out | apply below_alloc | apply pw_below_drewN | apply below_drew1) | exact HB.out)))); (case aL => have := LMc7.out; omega); intro v231 w8 ho hb hg hat; rw [← Ny230.out] at ho; have n0_ := Aside0.mk (hb); have n1_ := Aside0.mk (ho); clear HB; clear HO_9; have HB := n0_; have HO232 := n1_; clear n0_ n1_; clear ho hb hg hat))
                  go_roundg k2
                  case measure => have := HK1.out; have := HK2.out; omega
                  case rel => exact ⟨(x8_2 ++ (⟨#[47, 98]⟩ : ByteArray)), (y230), (wrap64 (x11_2 + 1)), (by first | rfl | (simp; done) | (simp [*]; done)), (by first | rfl | (simp; done) | (simp [*]; done)), H', ⟨by have := HK1.out; have := HK2.out; omega⟩, ⟨by (with_reducible repeat (first | apply Kd.R_alloc | apply Kd.R_drewN | apply Kd.R_drew)); exact HO232.out⟩, ⟨by repeat (first | (with_reducible first | exact HB.out | apply below_alloc | apply pw_below_drewN | apply below_drew1) | exact HB.out)⟩⟩
                · rw [if_neg c7] at H
                  exact absurd H (by simp)
              · rw [if_neg c6] at H
                exact absurd H (by simp)
            · rw [if_neg c5] at H
              have c5b0 : decide (x11_2 < (Int.tmod (wrap64 (a1)) 16)) = false := decide_eq_false c5
              clear c5
              replace H := Option.bind_eq_some_iff.mp H
              obtain ⟨⟨t233, t234⟩, A90, H⟩ := H
              replace H : ((name_Join.f x9_2).bind fun bt237 => (if (Int.tmod (wrap64 (a1)) 16) > 8 then (groupcontrollaw1_NameLimits.j2 k2 (Int.tmod (wrap64 (a0)) 64) (Int.tmod (wrap64 (a1)) 16) x7_1 t234 bt237.2 7) else (groupcontrollaw1_NameLimits.j2 k2 (Int.tmod (wrap64 (a0)) 64) (Int.tmod (wrap64 (a1)) 16) x7_1 t234 bt237.2 0))) = some r := H
              have A9 := Aside0.mk A90
              clear A90
              replace H := Option.bind_eq_some_iff.mp H
              obtain ⟨⟨t237, t238⟩, A100, H⟩ := H
              replace H : (if (Int.tmod (wrap64 (a1)) 16) > 8 then (groupcontrollaw1_NameLimits.j2 k2 (Int.tmod (wrap64 (a0)) 64) (Int.tmod (wrap64 (a1)) 16) x7_1 t234 t238 7) else (groupcontrollaw1_NameLimits.j2 k2 (Int.tmod (wrap64 (a0)) 64) (Int.tmod (wrap64 (a1)) 16) x7_1 t234 t238 0)) = some r := H
              have A10 := Aside0.mk A100
              clear A100
              have HC11 := Aside0.mk H
              clear H
              go_upto_if 51 with (first | ((with_reducible refine gate_callee (f := 7) rfl ?_); refine goesL_ (some 42) rfl rfl Tryd.func7 (by kernel_rfl) rfl #[.string x8_2] rfl (by (try simp only [List.map_toArray, List.map_cons, List.map_nil]); first | done | rfl | (simp only [List.length_drop, List.length_take]; rfl)) ?_; (with_reducible refine (name_Split.calls x8_2 t233 t234 _ A9.out).mono ?_); rintro e w12 ⟨v235, rfl, ho0, hb⟩; refine ⟨_, rfl, ?_⟩; have n0_ := Aside0.mk (Kd.R_elder' (by (with_reducible repeat (first | apply Kd.R_alloc | apply Kd.R_drewN | apply Kd.R_drew)); exact HO_9.out) (Kd.R_base ho0) hb); have n1_ := Aside0.mk (Kd.R_lower (Kd.R_new' ho0 (Kd.R_lt (by (with_reducible repeat (first | apply Kd.R_alloc | apply Kd.R_drewN | apply Kd.R_drew)); exact HO_9.out))) (below_size (by repeat (first | (with_reducible first | exact HB.out | apply below_alloc | apply pw_below_drewN | apply below_drew1) | exact HB.out)))); have n2_ := Aside0.mk (below_step (by repeat (first | (with_reducible first | exact HB.out | apply below_alloc | apply pw_below_drewN | apply below_drew1) | exact HB.out)) hb); clear HO_9; clear HB; have HO_9 := n0_; have HO236 := n1_; have HB := n2_; clear n0_ n1_ n2_; (try clear hb); (try clear hb2); (try clear hk); (try clear hi); (try clear ho0); obtain ⟨Ao13, co13, eo13⟩ := Kd.R_slice HO_9.out; subst eo13) | ((with_reducible refine gate_callee (f := 8) rfl ?_); refine goesL_ (some 47) rfl rfl Tryd.func8 (by kernel_rfl) rfl #[.slice Ao13 x9_2.length co13] rfl (by (try simp only [List.map_toArray, List.map_cons, List.map_nil]); first | done | rfl | (simp only [List.length_drop, List.length_take]; rfl)) ?_; (with_reducible refine (name_Join.calls _ _ x9_2 t237 t238 _ ?side1 ?side2 A10.out).mono ?_); (case side1 => repeat (first | exact (Kd.R_reads' HO_9.out).2.2 | (with_reducible refine Kd.C_alloc ?_ _) | (with_reducible refine Kd.C_drewN ?_ _) | (with_reducible refine Kd.C_drew ?_))); (case side2 => exact (Kd.R_reads' HO_9.out).2.1); rintro e w14 ⟨rfl, hb⟩; refine ⟨_, rfl, ?_⟩; have n0_ := Aside0.mk (Kd.R_below (by (with_reducible repeat (first | apply Kd.R_alloc | apply Kd.R_drewN | apply Kd.R_drew)); exact HO_9.out) hb); have n1_ := Aside0.mk (Kd.R_below (by (with_reducible repeat (first | apply Kd.R_alloc | apply Kd.R_drewN | apply Kd.R_drew)); exact HO236.out) hb); have n2_ := Aside0.mk (below_step (by repeat (first | (with_reducible first | exact HB.out | apply below_alloc | apply pw_below_drewN | apply below_drew1) | exact HB.out)) hb); clear HO_9; clear HO236; clear HB; have HO_9 := n0_; have HO236 := n1_; have HB := n2_; clear n0_ n1_ n2_; (try clear hb); (try clear hb2); (try clear hk); (try clear hi)))
              (try simp only [Act.put, List.setIfInBounds_toArray, List.set_cons_zero, List.set_cons_succ])
              go_cut [16] (fun v16 wc => ∃ (kq : Nat) (x16_10 : Int), v16 = .int .i64 x16_10 ∧ Aside0 (groupcontrollaw1_NameLimits.j2 kq (Int.tmod (wrap64 (a0)) 64) (Int.tmod (wrap64 (a1)) 16) x7_1 t234 t238 x16_10 = some r) ∧ Aside0 (kq ≤ k2) ∧ Aside0 (Below w.heap.size w wc))
              case first =>
                have H := HC11.out
                clear HC11
                by_cases c15 : (Int.tmod (wrap64 (a1)) 16) > 8
                · rw [if_pos c15] at H
                  have c15b0 : decide (8 < (Int.tmod (wrap64 (a1)) 16)) = true := decide_eq_true c15
                  clear c15
                  (first | rw [c15b0] | (simp only [i64_w, i32_w]; rw [c15b0]) | skip)
                  have H' := Aside0.mk H
                  clear H
                  go_wp2
                  go_meet
                  case rel => exact ⟨_, (7), (by first | rfl | (simp; done) | (simp [*]; done)), H', ⟨by have := HK1.out; have := HK2.out; first | omega | exact Nat.le_refl _⟩, ⟨by repeat (first | (with_reducible first | exact HB.out | apply below_alloc | apply pw_below_drewN | apply below_drew1) | exact HB.out)⟩⟩
                · rw [if_neg c15] at H
                  have c15b0 : decide (8 < (Int.tmod (wrap64 (a1)) 16)) = false := decide_eq_false c15
                  clear c15
                  (first | rw [c15b0] | (simp only [i64_w, i32_w]; rw [c15b0]) | skip)
                  have H' := Aside0.mk H
                  clear H
                  go_wp2
                  go_meet
                  case rel => exact ⟨_, (0), (by first | rfl | (simp; done) | (simp [*]; done)), H', ⟨by have := HK1.out; have := HK2.out; first | omega | exact Nat.le_refl _⟩, ⟨by repeat (first | (with_reducible first | exact HB.out | apply below_alloc | apply pw_below_drewN | apply below_drew1) | exact HB.out)⟩⟩
              case rest =>
                clear HC11
                try clear c1
                try clear p2
                try clear c3
                try clear c3b0
                try clear c4
                try clear c4b0
                try clear c4b1
                try clear c4b2
                try clear c5
                try clear c5b0
                try clear c6
                try clear c6b0
                try clear c6b1
                try clear c6b2
                try clear p6
                try clear c7
                try clear c8
                try clear c15
                try clear c15b0
                try clear p2
                obtain ⟨kq, x16_10, rfl, HA, HJ10, HB⟩ := hcut
                cases kq with
                | zero => exact absurd HA.out (by simp [groupcontrollaw1_NameLimits.j2])
                | succ kj10 =>
                  have H := HA.out
                  clear HA
                  simp only [groupcontrollaw1_NameLimits.j2] at H
                  have HC16 := Aside0.mk H
                  clear H
                  go_upto_region 18 with (fail)
                  go_cut [63] (fun v63 wc => ∃ (kq : Nat) (x63_15 : Bool), v63 = .bool x63_15 ∧ Aside0 (groupcontrollaw1_NameLimits.j3 kq (Int.tmod (wrap64 (a0)) 64) x7_1 x63_15 = some r) ∧ Aside0 (kq ≤ kj10) ∧ Aside0 (Below w.heap.size w wc))
                  case first =>
                    have H := HC16.out
                    clear HC16
                    by_cases c17 : (Int.tmod (wrap64 (a1)) 16) > 0
                    · rw [if_pos c17] at H
                      have c17b0 : decide (0 < (Int.tmod (wrap64 (a1)) 16)) = true := decide_eq_true c17
                      clear c17
                      (first | rw [c17b0] | (simp only [i64_w, i32_w]; rw [c17b0]) | skip)
                      by_cases c18 : t234 = x16_10
                      · rw [if_pos c18] at H
                        have c18b0 : (t234 == x16_10) = true := beq_iff_eq.mpr c18
                        have c18b1 : (t234 != x16_10) = false := bne_eq_false_iff_eq.mpr c18
                        clear c18
                        have H' := Aside0.mk H
                        clear H
                        go_wp2
                        go_meet
                        case rel => exact ⟨_, ((t238 != x16_10)), (by first | rfl | (simp; done) | (simp [*]; done)), H', ⟨by have := HK1.out; have := HK2.out; have := HJ10.out; first | omega | exact Nat.le_refl _⟩, ⟨by repeat (first | (with_reducible first | exact HB.out | apply below_alloc | apply pw_below_drewN | apply below_drew1) | exact HB.out)⟩⟩
                      · rw [if_neg c18] at H
                        have c18b0 : (t234 == x16_10) = false := beq_eq_false_iff_ne.mpr c18
                        have c18b1 : (t234 != x16_10) = true := bne_iff_ne.mpr c18
                        have H' := Aside0.mk H
                        clear H
                        go_wp2
                        go_meet
                        case rel => exact ⟨_, (true), (by first | rfl | (simp; done) | (simp [*]; done)), H', ⟨by have := HK1.out; have := HK2.out; have := HJ10.out; first | omega | exact Nat.le_refl _⟩, ⟨by repeat (first | (with_reducible first | exact HB.out | apply below_alloc | apply pw_below_drewN | apply below_drew1) | exact HB.out)⟩⟩
                    · rw [if_neg c17] at H
                      have c17b0 : decide (0 < (Int.tmod (wrap64 (a1)) 16)) = false := decide_eq_false c17
                      clear c17
                      (first | rw [c17b0] | (simp only [i64_w, i32_w]; rw [c17b0]) | skip)
                      have H' := Aside0.mk H
                      clear H
                      go_wp2
                      go_meet
                      case rel => exact ⟨_, ((t238 != x16_10)), (by first | rfl | (simp; done) | (simp [*]; done)), H', ⟨by have := HK1.out; have := HK2.out; have := HJ10.out; first | omega | exact Nat.le_refl _⟩, ⟨by repeat (first | (with_reducible first | exact HB.out | apply below_alloc | apply pw_below_drewN | apply below_drew1) | exact HB.out)⟩⟩
                  case rest =>
                    clear HC16
                    try clear c1
                    try clear p2
                    try clear c3
                    try clear c3b0
                    try clear c4
                    try clear c4b0
                    try clear c4b1
                    try clear c4b2
                    try clear c5
                    try clear c5b0
                    try clear c6
                    try clear c6b0
                    try clear c6b1
                    try clear c6b2
                    try clear p6
                    try clear c7
                    try clear c8
                    try clear c15
                    try clear c15b0
                    try clear c17
                    try clear c17b0
                    try clear c18
                    try clear c18b0
                    try clear c18b1
                    try clear p2
                    try clear p6
                    obtain ⟨kq, x63_15, rfl, HA, HJ15, HB⟩ := hcut
                    cases kq with
                    | zero => exact absurd HA.out (by simp [groupcontrollaw1_NameLimits.j3])
                    | succ kj15 =>
                      have H := HA.out
                      clear HA
                      simp only [groupcontrollaw1_NameLimits.j3] at H
                      by_cases c19 : x63_15 = true
                      · subst c19
                        have H1 : (some false) = some r := by rw [if_pos rfl] at H; exact H
                        clear H
                        have H := H1
                        clear H1
                        obtain rfl := Option.some.inj H
                        go_wp2
                        go_ret
                        exact ⟨by first | rfl | (simp [errW_none, errW_some] <;> rfl) | (simp [*, errW_none, errW_some] <;> rfl), by repeat (first | (with_reducible first | exact HB.out | apply below_alloc | apply pw_below_drewN | apply below_drew1) | exact HB.out)⟩
                      · replace c19 := Bool.eq_false_iff.mpr c19
                        subst c19
                        have H1 : ((name_Valid.f x7_1).bind fun t239 => (if (Int.tmod (wrap64 (a0)) 64) ≥ 1 then (if (t239 == (decide ((Int.tmod (wrap64 (a0)) 64) ≤ 32))) = true then ((groupcontrollaw1_sane.f).bind fun t240 => (some t240)) else (some false)) else (if (t239 == false) = true then ((groupcontrollaw1_sane.f).bind fun t241 => (some t241)) else (some false)))) = some r := by rw [if_neg (show ¬ (false = true) by decide)] at H; exact H
                        clear H
                        have H := H1
                        clear H1
                        replace H := Option.bind_eq_some_iff.mp H
                        obtain ⟨t239, A200, H⟩ := H
                        replace H : (if (Int.tmod (wrap64 (a0)) 64) ≥ 1 then (if (t239 == (decide ((Int.tmod (wrap64 (a0)) 64) ≤ 32))) = true then ((groupcontrollaw1_sane.f).bind fun t240 => (some t240)) else (some false)) else (if (t239 == false) = true then ((groupcontrollaw1_sane.f).bind fun t241 => (some t241)) else (some false))) = some r := H
                        have A20 := Aside0.mk A200
                        clear A200
                        by_cases c21 : (Int.tmod (wrap64 (a0)) 64) ≥ 1
                        · rw [if_pos c21] at H
                          have c21b0 : decide (1 ≤ (Int.tmod (wrap64 (a0)) 64)) = true := decide_eq_true c21
                          clear c21
                          by_cases c22 : (t239 == (decide ((Int.tmod (wrap64 (a0)) 64) ≤ 32))) = true
                          · rw [if_pos c22] at H
                            have c22b0 : (t239 == (decide ((Int.tmod (wrap64 (a0)) 64) ≤ 32))) = true := c22
                            (try (have c22b1 : decide (t239 = (decide ((Int.tmod (wrap64 (a0)) 64) ≤ 32))) = true := by simpa using c22))
                            (try (have c22b2 : (t239 == (decide ((Int.tmod (wrap64 (a0)) 64) ≤ 32))) = true := by simpa using c22))
                            clear c22
                            replace H := Option.bind_eq_some_iff.mp H
                            obtain ⟨t240, A230, H⟩ := H
                            replace H : (some t240) = some r := H
                            have A23 := Aside0.mk A230
                            clear A230
                            obtain rfl := Option.some.inj H
                            go_wp2_with (first | ((with_reducible refine gate_callee (f := 9) rfl ?_); refine goesL_ (some 65) rfl rfl Tryd.func9 (by kernel_rfl) rfl #[.string x7_1] rfl (by (try simp only [List.map_toArray, List.map_cons, List.map_nil]); first | done | rfl | (simp only [List.length_drop, List.length_take]; rfl)) ?_; (with_reducible refine (name_Valid.calls x7_1 t239 _ A20.out).mono ?_); rintro e w24 ⟨rfl, hb⟩; refine ⟨_, rfl, ?_⟩; have n0_ := Aside0.mk (below_step (by repeat (first | (with_reducible first | exact HB.out | apply below_alloc | apply pw_below_drewN | apply below_drew1) | exact HB.out)) hb); clear HB; have HB := n0_; clear n0_; (try clear hb); (try clear hb2); (try clear hk); (try clear hi)) | (go_at_call 10; (with_reducible refine (groupcontrollaw1_sane.calls  t240 _ A23.out).mono ?_); rintro e w25 ⟨rfl, hb⟩; have n0_ := Aside0.mk (below_step (by repeat (first | (with_reducible first | exact HB.out | apply below_alloc | apply pw_below_drewN | apply below_drew1) | exact HB.out)) hb); clear HB; have HB := n0_; clear n0_; (try clear hb); (try clear hb2); (try clear hk); (try clear hi)))
                            go_ret
                            exact ⟨by first | rfl | (simp [errW_none, errW_some] <;> rfl) | (simp [*, errW_none, errW_some] <;> rfl), by repeat (first | (with_reducible first | exact HB.out | apply below_alloc | apply pw_below_drewN | apply below_drew1) | exact HB.out)⟩
                          · rw [if_neg c22] at H
                            have c22b0 : (t239 == (decide ((Int.tmod (wrap64 (a0)) 64) ≤ 32))) = false := by simpa using c22
                            (try (have c22b1 : decide (t239 = (decide ((Int.tmod (wrap64 (a0)) 64) ≤ 32))) = false := by simpa using c22))
                            (try (have c22b2 : (t239 == (decide ((Int.tmod (wrap64 (a0)) 64) ≤ 32))) = false := by simpa using c22))
                            (try (have c22b3 : ¬ (t239 = (decide ((Int.tmod (wrap64 (a0)) 64) ≤ 32))) := by simpa using c22))
                            clear c22
                            obtain rfl := Option.some.inj H
                            go_wp2_with (first | ((with_reducible refine gate_callee (f := 9) rfl ?_); refine goesL_ (some 65) rfl rfl Tryd.func9 (by kernel_rfl) rfl #[.string x7_1] rfl (by (try simp only [List.map_toArray, List.map_cons, List.map_nil]); first | done | rfl | (simp only [List.length_drop, List.length_take]; rfl)) ?_; (with_reducible refine (name_Valid.calls x7_1 t239 _ A20.out).mono ?_); rintro e w26 ⟨rfl, hb⟩; refine ⟨_, rfl, ?_⟩; have n0_ := Aside0.mk (below_step (by repeat (first | (with_reducible first | exact HB.out | apply below_alloc | apply pw_below_drewN | apply below_drew1) | exact HB.out)) hb); clear HB; have HB := n0_; clear n0_; (try clear hb); (try clear hb2); (try clear hk); (try clear hi)))
                            go_ret
                            exact ⟨by first | rfl | (simp [errW_none, errW_some] <;> rfl) | (simp [*, errW_none, errW_some] <;> rfl), by repeat (first | (with_reducible first | exact HB.out | apply below_alloc | apply pw_below_drewN | apply below_drew1) | exact HB.out)⟩
                        · rw [if_neg c21] at H
                          have c21b0 : decide (1 ≤ (Int.tmod (wrap64 (a0)) 64)) = false := decide_eq_false c21
                          clear c21
                          by_cases c27 : (t239 == false) = true
                          · rw [if_pos c27] at H
                            have c27b0 : (t239 == false) = true := c27
                            (try (have c27b1 : decide (t239 = false) = true := by simpa using c27))
                            (try (have c27b2 : (t239 == false) = true := by simpa using c27))
                            clear c27
                            replace H := Option.bind_eq_some_iff.mp H
                            obtain ⟨t241, A280, H⟩ := H
                            replace H : (some t241) = some r := H
                            have A28 := Aside0.mk A280
                            clear A280
                            obtain rfl := Option.some.inj H
                            go_wp2_with (first | ((with_reducible refine gate_callee (f := 9) rfl ?_); refine goesL_ (some 65) rfl rfl Tryd.func9 (by kernel_rfl) rfl #[.string x7_1] rfl (by (try simp only [List.map_toArray, List.map_cons, List.map_nil]); first | done | rfl | (simp only [List.length_drop, List.length_take]; rfl)) ?_; (with_reducible refine (name_Valid.calls x7_1 t239 _ A20.out).mono ?_); rintro e w29 ⟨rfl, hb⟩; refine ⟨_, rfl, ?_⟩; have n0_ := Aside0.mk (below_step (by repeat (first | (with_reducible first | exact HB.out | apply below_alloc | apply pw_below_drewN | apply below_drew1) | exact HB.out)) hb); clear HB; have HB := n0_; clear n0_; (try clear hb); (try clear hb2); (try clear hk); (try clear hi)) | (go_at_call 10; (with_reducible refine (groupcontrollaw1_sane.calls  t241 _ A28.out).mono ?_); rintro e w30 ⟨rfl, hb⟩; have n0_ := Aside0.mk (below_step (by repeat (first | (with_reducible first | exact HB.out | apply below_alloc | apply pw_below_drewN | apply below_drew1) | exact HB.out)) hb); clear HB; have HB := n0_; clear n0_; (try clear hb); (try clear hb2); (try clear hk); (try clear hi)))
                            go_ret
                            exact ⟨by first | rfl | (simp [errW_none, errW_some] <;> rfl) | (simp [*, errW_none, errW_some] <;> rfl), by repeat (first | (with_reducible first | exact HB.out | apply below_alloc | apply pw_below_drewN | apply below_drew1) | exact HB.out)⟩
                          · rw [if_neg c27] at H
                            have c27b0 : (t239 == false) = false := by simpa using c27
                            (try (have c27b1 : decide (t239 = false) = false := by simpa using c27))
                            (try (have c27b2 : (t239 == false) = false := by simpa using c27))
                            (try (have c27b3 : ¬ (t239 = false) := by simpa using c27))
                            clear c27
                            obtain rfl := Option.some.inj H
                            go_wp2_with (first | ((with_reducible refine gate_callee (f := 9) rfl ?_); refine goesL_ (some 65) rfl rfl Tryd.func9 (by kernel_rfl) rfl #[.string x7_1] rfl (by (try simp only [List.map_toArray, List.map_cons, List.map_nil]); first | done | rfl | (simp only [List.length_drop, List.length_take]; rfl)) ?_; (with_reducible refine (name_Valid.calls x7_1 t239 _ A20.out).mono ?_); rintro e w31 ⟨rfl, hb⟩; refine ⟨_, rfl, ?_⟩; have n0_ := Aside0.mk (below_step (by repeat (first | (with_reducible first | exact HB.out | apply below_alloc | apply pw_below_drewN | apply below_drew1) | exact HB.out)) hb); clear HB; have HB := n0_; clear n0_; (try clear hb); (try clear hb2); (try clear hk); (try clear hi)))
                            go_ret
                            exact ⟨by first | rfl | (simp [errW_none, errW_some] <;> rfl) | (simp [*, errW_none, errW_some] <;> rfl), by repeat (first | (with_reducible first | exact HB.out | apply below_alloc | apply pw_below_drewN | apply below_drew1) | exact HB.out)⟩

/-- THE ONE PURE STATEMENT of groupcontrollaw1_NameLimits: yours. -/
def groupcontrollaw1_NameLimits.Pure : Prop := ∀ (a0 : Int) (a1 : Int), (Lit.int .u8 a0).wf = true → (Lit.int .u8 a1).wf = true → ∃ k, groupcontrollaw1_NameLimits.f k a0 a1 = some true
theorem groupcontrollaw1_NameLimits.walk (P : groupcontrollaw1_NameLimits.Pure) (a0 : Int) (a1 : Int) (w : World) (w0 : (Lit.int .u8 a0).wf = true) (w1 : (Lit.int .u8 a1).wf = true) :
    Calls Tryd.prog 3 #[.int .u8 a0, .int .u8 a1] w fun e w' => e = .returned (.bool true) ∧ Below w.heap.size w w' := by
  obtain ⟨k, h⟩ := P a0 a1 w0 w1
  refine (groupcontrollaw1_NameLimits.calls k a0 a1 true w h).mono ?_
  rintro e w' ⟨rfl, hd⟩
  exact ⟨rfl, hd⟩

end Go.Proofs.YtjpbdkfgblmioaaDoor.PA
