/- Contracts of functions of the program and of its references, over the translation, for values that can be read as data: each call comes to what a Lean function says. Written by the kit's printer and a program of this session's, with hand-made contracts spliced in. -/
import Derived.Test.YtgfbamddaepebaaDoorPNx0
import Derived.Test.YtgfbamddaepebaaDoorPNx1
namespace Go.Proofs.YtgfbamddaepebaaDoor.PN
open Go.RowKit Go.Proofs.YtgfbamddaepebaaDoorW.PrintWords Go.Proofs.YtgfbamddaepebaaDoorW.PrintLast Go.Proofs.YtgfbamddaepebaaDoorW.PrintMore
set_option linter.unusedVariables false
set_option linter.unusedSimpArgs false

/-! ### number_FormatHundredths: function 6 (by hand) -/
/-- The two numerals of a hundredth. -/
def fhFront (n : Int) : ByteArray := ⟨(Lib.decDigits (n / 100).toNat).toArray⟩
def fhBack (n : Int) : ByteArray := ⟨(Lib.itoa (100 + n % 100)).toArray⟩
def number_FormatHundredths.f (n : Int) : Option (ByteArray × Int) :=
  if n = 10000 then some (⟨#[109, 97, 120]⟩, 0) else if n < 0 ∨ 10000 < n then some (⟨#[]⟩, 3) else some (fhFront n ++ ⟨#[46]⟩ ++ (fhBack n).extract 1 (fhBack n).size, 0)
theorem fhFront_size : ∀ m : Nat, m < 100 → (Lib.decDigits m).length ≤ 2 := by decide +kernel
theorem fhBack_size : ∀ m : Nat, m < 100 → (Lib.itoa (100 + m)).length = 3 := by decide +kernel
set_option maxHeartbeats 4000000 in
theorem number_FormatHundredths.calls (a0 : Int) (r1 : ByteArray) (r2 : Int) (w : World) (hLaid : LaidW w) (h : number_FormatHundredths.f a0 = some (r1, r2)) :
    Calls Tryd.prog 6 #[.int .i64 a0] w fun e w' => e = .returned (.tuple #[.string r1, .int .i64 r2]) ∧ Below w.heap.size w w' := by
  unfold number_FormatHundredths.f at h
  by_cases h1 : a0 = 10000
  · rw [if_pos h1] at h
    simp only [Option.some.injEq, Prod.mk.injEq] at h
    obtain ⟨rfl, rfl⟩ := h
    subst h1
    clear hLaid
    go_enter Tryd.func6, Tryd.ntmps6
    go_wp2
    go_ret2
    exact ⟨rfl, Below.refl _ _⟩
  · rw [if_neg h1] at h
    have e1 : (a0 == 10000) = false := by simpa using h1
    by_cases h2 : a0 < 0 ∨ 10000 < a0
    · rw [if_pos h2] at h
      simp only [Option.some.injEq, Prod.mk.injEq] at h
      obtain ⟨rfl, rfl⟩ := h
      clear hLaid
      rcases h2 with h2 | h2
      · clear h1
        have h2' : decide (a0 < 0) = true := by simpa using h2
        clear h2
        go_enter Tryd.func6, Tryd.ntmps6
        go_wp2
        go_ret2
        exact ⟨rfl, Below.refl _ _⟩
      · clear h1
        have h2' : decide (a0 < 0) = false := by simp; omega
        have h3' : decide (10000 < a0) = true := by simpa using h2
        clear h2
        go_enter Tryd.func6, Tryd.ntmps6
        go_wp2
        go_ret2
        exact ⟨rfl, Below.refl _ _⟩
    · rw [if_neg h2] at h
      simp only [Option.some.injEq, Prod.mk.injEq] at h
      obtain ⟨rfl, rfl⟩ := h
      obtain ⟨n, rfl⟩ := Int.eq_ofNat_of_zero_le (show 0 ≤ a0 by omega)
      have hn : n < 10000 := by omega
      have c1 := strconv_Itoa.calls (100 + (n : Int) % 100) (fhBack n) w hLaid (by unfold strconv_Itoa.f; rw [if_pos (by omega)]; rfl)
      have c2 : ∀ W, Calls Tryd.prog 20 #[.int .i64 ((n : Int) / 100)] W fun e W' => e = .returned (.string (fhFront n)) ∧ W' = W := fun W => by
        have := Tryd.strconv_Itoa_small (n / 100) (by omega) W
        have hq : ((n : Int) / 100).toNat = n / 100 := by omega
        simpa [fhFront, hq] using this
      have s1 : (fhFront n).size ≤ 2 := by
        have := fhFront_size (n / 100) (by omega)
        have hq : ((n : Int) / 100).toNat = n / 100 := by omega
        simpa [fhFront, ByteArray.size, hq] using this
      have s2 : (fhBack n).size = 3 := by
        have := fhBack_size (n % 100) (by omega)
        simpa [fhBack, ByteArray.size] using this
      generalize fhFront n = t1 at c2 s1 ⊢
      generalize fhBack n = t2 at c1 s2 ⊢
      have s2a : 1 ≤ t2.size := by omega
      have s2b : t2.size ≤ 3 := by omega
      clear s2 hLaid h2
      have e2 : decide ((n : Int) < 0) = false := decide_eq_false (by omega)
      have e3 : decide (10000 < (n : Int)) = false := decide_eq_false (by omega)
      clear h1
      have k0 : (0 : Int) ≤ (n : Int) := by omega
      have k1 : (n : Int) ≤ 9999 := by omega
      clear hn
      go_enter Tryd.func6, Tryd.ntmps6
      go_wp2_with (go_at_call 20; refine c1.mono ?_; rintro e w1 ⟨rfl, hb⟩)
      have HB := Aside0.mk hb
      clear hb
      go_quiet ((go_at_call 20; exact Calls.quiet_of_same (c2 _)))
      go_wp2
      go_ret2
      exact ⟨by simp, HB.out.trans (Drawn0.below ⟨⟨_, rfl⟩⟩ |>.mono HB.out.size)⟩

end Go.Proofs.YtgfbamddaepebaaDoor.PN
