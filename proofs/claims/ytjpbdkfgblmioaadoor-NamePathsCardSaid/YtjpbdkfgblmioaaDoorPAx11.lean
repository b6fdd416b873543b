/- Contracts of functions of the program and of its references, over the translation, for values that can be read as data: each call comes to what a Lean function says. Written by the kit's printer and a program of this session's, with hand-made contracts spliced in. -/
import Derived.Test.YtjpbdkfgblmioaaDoorPAx0
import Derived.Test.YtjpbdkfgblmioaaDoorPAx6
namespace Go.Proofs.YtjpbdkfgblmioaaDoor.PA
open Go.RowKit Go.Proofs.YtjpbdkfgblmioaaDoorW.PrintWords Go.Proofs.YtjpbdkfgblmioaaDoorW.PrintLast Go.Proofs.YtjpbdkfgblmioaaDoorW.PrintMore
set_option linter.unusedVariables false
set_option linter.unusedSimpArgs false

/-! ### name_alike: function 29 (by hand) -/
/-- How many names at the beginnings of two lists are equal. -/
def comLen : List ByteArray → List ByteArray → Nat
  | x :: l, y :: m => if x = y then comLen l m + 1 else 0
  | _, _ => 0
def name_alike.f (l0 l1 : List ByteArray) : Option Int := some (comLen l0 l1)
theorem comLen_at : ∀ (l m : List ByteArray) (k : Nat), k ≤ l.length → k ≤ m.length → (∀ j : Nat, j < k → rdOf ByteArray.empty l j = rdOf ByteArray.empty m j) →
    (l.length ≤ k ∨ m.length ≤ k ∨ rdOf ByteArray.empty l k ≠ rdOf ByteArray.empty m k) → comLen l m = k
  | [], m, k, hl, hm, _, _ => by
    have : k = 0 := by simpa using hl
    simp [comLen, this]
  | x :: l, [], k, hl, hm, _, _ => by
    have : k = 0 := by simpa using hm
    simp [comLen, this]
  | x :: l, y :: m, 0, hl, hm, h, hne => by
    have : x ≠ y := by simpa [rdOf] using hne
    simp [comLen, this]
  | x :: l, y :: m, k + 1, hl, hm, h, hne => by
    have h0 : x = y := by simpa [rdOf] using h 0 (by omega)
    have ih := comLen_at l m k (by simpa using hl) (by simpa using hm) (fun j hj => by simpa [rdOf] using h (j + 1) (by omega)) (by simpa [rdOf] using hne)
    simp [comLen, h0, ih]

attribute [local go_sem] max2_int min2_int max_two min_two max_three min_three max_four min_four
set_option maxHeartbeats 2000000 in
theorem name_alike.calls (A0 : Option Addr) (c0 : Nat) (l0 : List ByteArray) (A1 : Option Addr) (c1 : Nat) (l1 : List ByteArray) (r : Int) (w : World) (hr0 : Kd.C Kd.string w A0 l0.length l0) (hc0 : l0.length ≤ c0) (hr1 : Kd.C Kd.string w A1 l1.length l1) (hc1 : l1.length ≤ c1) (h : name_alike.f l0 l1 = some r) :
    Calls Tryd.prog 29 #[.slice A0 l0.length c0, .slice A1 l1.length c1] w fun e w' => e = .returned (.int .i64 r) ∧ Below w.heap.size w w' := by
  obtain rfl : (comLen l0 l1 : Int) = r := Option.some.inj h
  clear h
  have b0 : l0.length ≤ 9223372036854775807 := hr0.2.1
  have b1 : l1.length ≤ 9223372036854775807 := hr1.2.1
  have HR0 := Aside0.mk hr0
  have HR1 := Aside0.mk hr1
  clear hr0 hr1
  go_enter Tryd.func29, Tryd.ntmps29
  go_wp2
  go_loopg [5] l0.length (fun gg s5 wr => ∃ kk : Nat, kk ≤ l0.length ∧ kk ≤ l1.length ∧ l0.length - kk ≤ gg ∧ s5 = .int .i64 kk ∧ Aside0 (Below w.heap.size w wr) ∧ Aside0 (∀ j : Nat, j < kk → rdOf ByteArray.empty l0 j = rdOf ByteArray.empty l1 j))
  case atStart => exact ⟨0, Nat.zero_le _, Nat.zero_le _, by omega, rfl, ⟨Below.refl _ w⟩, ⟨fun j hj => absurd hj (Nat.not_lt_zero _)⟩⟩
  case round =>
    obtain ⟨kk, hk0, hk1, hg, rfl, BW, AN⟩ := hrel
    by_cases hm : l1.length < l0.length
    · by_cases hlt : kk < l0.length ∧ kk < l1.length
      · obtain ⟨q0, q1⟩ := hlt
        have hmin : decide ((kk : Int) < if l1.length < l0.length then (l1.length : Int) else (l0.length : Int)) = true := by simp; split <;> omega
        have z0 : (kk : Int) < (l0.length : Int) := by omega
        have z1 : (kk : Int) < (l1.length : Int) := by omega
        obtain ⟨ad0, e0, x0⟩ := Kd.at_string HR0.out (kk : Int) (by omega) (by omega)
        cases e0
        obtain ⟨ad1, e1, x1⟩ := Kd.at_string HR1.out (kk : Int) (by omega) (by omega)
        cases e1
        replace x0 := (BW.out.cell (World.block_lt_of_cell? w _ x0)).trans x0
        replace x1 := (BW.out.cell (World.block_lt_of_cell? w _ x1)).trans x1
        simp only [Int.toNat_natCast] at x0 x1
        by_cases he : rdOf ByteArray.empty l0 kk = rdOf ByteArray.empty l1 kk
        · have heb : ((rdOf ByteArray.empty l0 (kk : Int)).toList == (rdOf ByteArray.empty l1 (kk : Int)).toList) = true := by rw [he]; simp
          have HE := Aside0.mk he
          clear he
          go_wp2
          go_quiet (fail)
          go_wp2
          go_roundg (l0.length - (kk + 1))
          case measure => omega
          case rel =>
            refine ⟨kk + 1, by omega, by omega, by omega, by go_num, ⟨by repeat (first | exact BW.out | apply pw_below_drewN | apply below_drew1)⟩, ⟨fun j hj => ?_⟩⟩
            by_cases e : j = kk
            · subst e; exact HE.out
            · exact AN.out j (by omega)
        · have heb : ((rdOf ByteArray.empty l0 (kk : Int)).toList == (rdOf ByteArray.empty l1 (kk : Int)).toList) = false := by
            rw [beq_eq_false_iff_ne]
            intro h
            rw [ba_toList, ba_toList] at h
            exact he (ByteArray.ext (Array.toList_inj.1 h))
          have HE := Aside0.mk he
          clear he
          go_wp2
          go_quiet (fail)
          go_wp2
          go_ret
          exact ⟨by rw [comLen_at l0 l1 kk hk0 hk1 AN.out (.inr (.inr HE.out))]; rfl, by repeat (first | exact BW.out | apply pw_below_drewN | apply below_drew1)⟩
      · have hmin : decide ((kk : Int) < if l1.length < l0.length then (l1.length : Int) else (l0.length : Int)) = false := by simp; split <;> omega
        have HE : Aside0 (l0.length ≤ kk ∨ l1.length ≤ kk) := ⟨by omega⟩
        have z1 : ¬ kk < l1.length := by omega
        clear hlt
        go_wp2
        go_quiet (fail)
        go_wp2
        go_ret
        exact ⟨by rw [comLen_at l0 l1 kk hk0 hk1 AN.out (HE.out.elim .inl (fun h => .inr (.inl h)))]; rfl, by repeat (first | exact BW.out | apply pw_below_drewN | apply below_drew1)⟩
    · by_cases hlt : kk < l0.length ∧ kk < l1.length
      · obtain ⟨q0, q1⟩ := hlt
        have hmin : decide ((kk : Int) < if l1.length < l0.length then (l1.length : Int) else (l0.length : Int)) = true := by simp; split <;> omega
        have z0 : (kk : Int) < (l0.length : Int) := by omega
        have z1 : (kk : Int) < (l1.length : Int) := by omega
        obtain ⟨ad0, e0, x0⟩ := Kd.at_string HR0.out (kk : Int) (by omega) (by omega)
        cases e0
        obtain ⟨ad1, e1, x1⟩ := Kd.at_string HR1.out (kk : Int) (by omega) (by omega)
        cases e1
        replace x0 := (BW.out.cell (World.block_lt_of_cell? w _ x0)).trans x0
        replace x1 := (BW.out.cell (World.block_lt_of_cell? w _ x1)).trans x1
        simp only [Int.toNat_natCast] at x0 x1
        by_cases he : rdOf ByteArray.empty l0 kk = rdOf ByteArray.empty l1 kk
        · have heb : ((rdOf ByteArray.empty l0 (kk : Int)).toList == (rdOf ByteArray.empty l1 (kk : Int)).toList) = true := by rw [he]; simp
          have HE := Aside0.mk he
          clear he
          go_wp2
          go_quiet (fail)
          go_wp2
          go_roundg (l0.length - (kk + 1))
          case measure => omega
          case rel =>
            refine ⟨kk + 1, by omega, by omega, by omega, by go_num, ⟨by repeat (first | exact BW.out | apply pw_below_drewN | apply below_drew1)⟩, ⟨fun j hj => ?_⟩⟩
            by_cases e : j = kk
            · subst e; exact HE.out
            · exact AN.out j (by omega)
        · have heb : ((rdOf ByteArray.empty l0 (kk : Int)).toList == (rdOf ByteArray.empty l1 (kk : Int)).toList) = false := by
            rw [beq_eq_false_iff_ne]
            intro h
            rw [ba_toList, ba_toList] at h
            exact he (ByteArray.ext (Array.toList_inj.1 h))
          have HE := Aside0.mk he
          clear he
          go_wp2
          go_quiet (fail)
          go_wp2
          go_ret
          exact ⟨by rw [comLen_at l0 l1 kk hk0 hk1 AN.out (.inr (.inr HE.out))]; rfl, by repeat (first | exact BW.out | apply pw_below_drewN | apply below_drew1)⟩
      · have hmin : decide ((kk : Int) < if l1.length < l0.length then (l1.length : Int) else (l0.length : Int)) = false := by simp; split <;> omega
        have HE : Aside0 (l0.length ≤ kk ∨ l1.length ≤ kk) := ⟨by omega⟩
        have z0 : ¬ kk < l0.length := by omega
        clear hlt
        go_wp2
        go_quiet (fail)
        go_wp2
        go_ret
        exact ⟨by rw [comLen_at l0 l1 kk hk0 hk1 AN.out (HE.out.elim .inl (fun h => .inr (.inl h)))]; rfl, by repeat (first | exact BW.out | apply pw_below_drewN | apply below_drew1)⟩

end Go.Proofs.YtjpbdkfgblmioaaDoor.PA
