/- Texts of numbers are read back: the pure statement, for every int and every 16-bit number. -/
import Derived.Test.YtgfbamddaepebaaDoorPNx25
import Derived.Test.YtgfbamddaepebaaDoorPure1
import Derived.Test.YtgfbamddaepebaaDoorPure2
namespace Go.Proofs.YtgfbamddaepebaaDoor.Pure
open Go.RowKit Go.Proofs.YtgfbamddaepebaaDoor.PN Go.Proofs.YtgfbamddaepebaaDoorW.PrintWords Go.Proofs.YtgfbamddaepebaaDoorW.PrintLast
set_option maxRecDepth 100000
theorem sane_back : groupcontrollaw2_sane.f 20 = some true := by decide +kernel
theorem back_step (k : Nat) (hk : 1 ≤ k) (x1 : Int) (l : List Int) (i : Nat) (hi : i < l.length) (hl : l.length ≤ 1000) :
    groupcontrollaw2_NumberBack.l0 (k + 1) x1 l (l.length : Int) (i : Int) = groupcontrollaw2_NumberBack.l0 k x1 l (l.length : Int) ((i + 1 : Nat) : Int) := by
  have hw : wrap64 ((i : Int) + 1) = ((i + 1 : Nat) : Int) := by rw [wrapS _ (by omega) (by omega)]; rfl
  simp only [groupcontrollaw2_NumberBack.l0]
  rw [if_pos (by omega), if_pos (by omega), if_pos (by omega), hw]
  rcases format_parse (rd l i) with ⟨s, e, he, hne⟩ | ⟨s, he, hp⟩
  · rw [he]
    simp only [Option.bind_some]
    rw [if_neg hne]
  · rw [he]
    simp only [Option.bind_some, if_true]
    rw [hp k hk]
    simp only [Option.bind_some, if_true]
theorem back_end (y : Nat) (l : List Int) (hy : y ≤ 65535) :
    groupcontrollaw2_NumberBack.l0 21 (y : Int) l (l.length : Int) ((l.length : Nat) : Int) = some true := by
  have ey : Int.tmod (wrap64 (y : Int)) 10001 = ((y % 10001 : Nat) : Int) := by
    rw [wrapS _ (by omega) (by omega), Int.tmod_eq_emod_of_nonneg (by omega)]; rfl
  obtain ⟨s, hs, hs'⟩ := hund_back (y % 10001) (by omega)
  simp only [groupcontrollaw2_NumberBack.l0]
  rw [if_neg (by omega), ey, hs]
  simp only [Option.bind_some]
  rw [hs' 20 (by omega)]
  simp only [Option.bind_some, if_true]
  rw [sane_back]
  rfl
theorem NumberBack : groupcontrollaw2_NumberBack.Pure := by
  intro a0 a1 w0 w1
  have b1 : 0 ≤ a1 ∧ a1 ≤ 65535 := by
    have e1 : IntKind.u16.min = 0 := rfl
    have e2 : IntKind.u16.max = 65535 := rfl
    simpa [Lit.wf, e1, e2] using w1
  obtain ⟨y, rfl⟩ := Int.eq_ofNat_of_zero_le b1.1
  refine ⟨26, ?_⟩
  unfold groupcontrollaw2_NumberBack.f
  simp only [Option.bind_some]
  generalize hl : ([a0, wrap64 (y : Int), wrap64 ((wrap64 (y : Int)) * 123456789), 4611686018427387904, 1099511627776] : List Int) = l
  have hlen : l.length = 5 := by rw [← hl]; rfl
  have s0 := back_step 25 (by omega) y l 0 (by omega) (by omega)
  have s1 := back_step 24 (by omega) y l 1 (by omega) (by omega)
  have s2 := back_step 23 (by omega) y l 2 (by omega) (by omega)
  have s3 := back_step 22 (by omega) y l 3 (by omega) (by omega)
  have s4 := back_step 21 (by omega) y l 4 (by omega) (by omega)
  have s5 := back_end y l (by omega)
  rw [show ((l.length : Nat) : Int) = ((5 : Nat) : Int) by rw [hlen]] at s0 s1 s2 s3 s4 s5 ⊢
  exact s0.trans (s1.trans (s2.trans (s3.trans (s4.trans s5))))
end Go.Proofs.YtgfbamddaepebaaDoor.Pure
