/- Facts on hundredths, number by number: what a hundredth of a percent is written as reads back as it was. Proved by computation for each number below 10000. -/
import Derived.Test.YtgfbamddaepebaaDoorPNx6
import Derived.Test.YtgfbamddaepebaaDoorPNx2
namespace Go.Proofs.YtgfbamddaepebaaDoor.PN
open Go.RowKit Go.Proofs.YtgfbamddaepebaaDoorW.PrintWords Go.Proofs.YtgfbamddaepebaaDoorW.PrintLast Go.Proofs.YtgfbamddaepebaaDoorW.PrintMore
set_option maxRecDepth 100000
/-- The text of m hundredths reads back as m. -/
def chkH (m : Nat) : Bool := match number_FormatHundredths.f m with
  | some (s, 0) => number_Hundredths.f 20 s == some ((m : Int), 0)
  | _ => false
def allFrom (f : Nat → Bool) : Nat → Nat → Bool
  | _, 0 => true
  | a, n + 1 => f a && allFrom f (a + 1) n
theorem allFrom_at (f : Nat → Bool) : ∀ (n a : Nat), allFrom f a n = true → ∀ m, a ≤ m → m < a + n → f m = true
  | 0, a, _, m, h1, h2 => by omega
  | n + 1, a, h, m, h1, h2 => by
    simp only [allFrom, Bool.and_eq_true] at h
    by_cases e : m = a
    · subst e; exact h.1
    · exact allFrom_at f n (a + 1) h.2 m (by omega) (by omega)
theorem chkH0 : allFrom chkH 0 2000 = true := by decide +kernel
theorem chkH1 : allFrom chkH 2000 2000 = true := by decide +kernel
theorem chkH2 : allFrom chkH 4000 2000 = true := by decide +kernel
theorem chkH3 : allFrom chkH 6000 2000 = true := by decide +kernel
theorem chkH4 : allFrom chkH 8000 2001 = true := by decide +kernel
theorem chkH_all (m : Nat) (h : m < 10001) : chkH m = true := by
  by_cases h0 : m < 2000
  · exact allFrom_at _ _ _ chkH0 m (by omega) (by omega)
  by_cases h1 : m < 4000
  · exact allFrom_at _ _ _ chkH1 m (by omega) (by omega)
  by_cases h2 : m < 6000
  · exact allFrom_at _ _ _ chkH2 m (by omega) (by omega)
  by_cases h3 : m < 8000
  · exact allFrom_at _ _ _ chkH3 m (by omega) (by omega)
  exact allFrom_at _ _ _ chkH4 m (by omega) (by omega)
/-- The text of m hundredths, m up to 10000, and what it reads back as. -/
theorem hund_back (m : Nat) (h : m < 10001) : ∃ s, number_FormatHundredths.f m = some (s, 0) ∧ ∀ k, 20 ≤ k → number_Hundredths.f k s = some ((m : Int), 0) := by
  have hc := chkH_all m h
  unfold chkH at hc
  split at hc
  · rename_i s hs
    refine ⟨s, hs, fun k hk => at_rounds (number_Hundredths.mono s) hk (by simpa using hc)⟩
  · cases hc
end Go.Proofs.YtgfbamddaepebaaDoor.PN
