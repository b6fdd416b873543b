/- Percentages with one, two or no digits behind the point mean the same number of hundredths, and greater numbers have greater texts in value: the pure statement, for every pair of 16-bit numbers. -/
import Derived.Test.YtgfbamddaepebaaDoorPNx11
import Derived.Test.YtgfbamddaepebaaDoorPure1
namespace Go.Proofs.YtgfbamddaepebaaDoor.Pure
open Go.RowKit Go.Proofs.YtgfbamddaepebaaDoor.PN Go.Proofs.YtgfbamddaepebaaDoorW.PrintWords Go.Proofs.YtgfbamddaepebaaDoorW.PrintLast
set_option maxRecDepth 100000

/-- The whole part of a number of hundredths, alone: reads as whole hundreds. -/
def chkW (q : Nat) : Bool := match groupcontrolref2_Decimal.f 20 q with
  | some t => decide (t.size ≤ 10) && number_Hundredths.f 20 t == some ((q : Int) * 100, 0)
  | none => false
/-- With one digit behind the point: reads as whole tens. -/
def chkT (m : Nat) : Bool := match groupcontrolref2_Decimal.f 20 (m / 10 : Nat), groupcontrolref2_Decimal.f 20 (m % 10 : Nat) with
  | some t, some u => decide (t.size ≤ 10) && decide (u.size ≤ 10) && number_Hundredths.f 20 ((t ++ (⟨#[46]⟩ : ByteArray)) ++ u) == some ((m : Int) * 10, 0)
  | _, _ => false
theorem chkW_all : allFrom chkW 0 100 = true := by decide +kernel
theorem chkT_all : allFrom chkT 0 1000 = true := by decide +kernel
theorem sane_ok : groupcontrollaw2_sane.f 20 = some true := by decide +kernel

theorem whole_ok (q : Nat) (h : q < 100) : ∃ t, groupcontrolref2_Decimal.f 20 (q : Int) = some t ∧ t.size ≤ 10 ∧ number_Hundredths.f 20 t = some ((q : Int) * 100, 0) := by
  have hc := allFrom_at _ _ _ chkW_all q (by omega) (by omega)
  unfold chkW at hc
  split at hc
  · rename_i t ht
    simp only [Bool.and_eq_true, decide_eq_true_eq, beq_iff_eq] at hc
    exact ⟨t, ht, hc.1, hc.2⟩
  · cases hc
theorem tenth_ok (m : Nat) (h : m < 1000) : ∃ t u, groupcontrolref2_Decimal.f 20 ((m / 10 : Nat) : Int) = some t ∧ groupcontrolref2_Decimal.f 20 ((m % 10 : Nat) : Int) = some u ∧ t.size ≤ 10 ∧ u.size ≤ 10 ∧ number_Hundredths.f 20 ((t ++ (⟨#[46]⟩ : ByteArray)) ++ u) = some ((m : Int) * 10, 0) := by
  have hc := allFrom_at _ _ _ chkT_all m (by omega) (by omega)
  unfold chkT at hc
  split at hc
  · rename_i t u ht hu
    simp only [Bool.and_eq_true, decide_eq_true_eq, beq_iff_eq] at hc
    exact ⟨t, u, ht, hu, hc.1.1, hc.1.2, hc.2⟩
  · cases hc
theorem tdiv_nat (m d : Nat) : Int.tdiv (m : Int) (d : Int) = ((m / d : Nat) : Int) := by rw [Int.tdiv_eq_ediv_of_nonneg (by omega)]; rfl
theorem tmod_nat (m d : Nat) : Int.tmod (m : Int) (d : Int) = ((m % d : Nat) : Int) := by rw [Int.tmod_eq_emod_of_nonneg (by omega)]; rfl
theorem wrap_small (x : Int) (h0 : -9223372036854775808 ≤ x) (h1 : x ≤ 9223372036854775807) : wrap64 x = x := by unfold wrap64; omega

theorem parts_tail_at (k m : Nat) (h : m < 10000) (t u : ByteArray) (ht : groupcontrolref2_Decimal.f k ((m / 100 : Nat) : Int) = some t) (hu : groupcontrolref2_Decimal.f k ((m / 10 % 10 : Nat) : Int) = some u) (ts : t.size ≤ 10) (us : u.size ≤ 10)
    (hh : number_Hundredths.f k t = some (((m / 100 : Nat) : Int) * 100, 0)) (hh' : number_Hundredths.f k ((t ++ (⟨#[46]⟩ : ByteArray)) ++ u) = some (((m / 10 : Nat) : Int) * 10, 0)) (hs : groupcontrollaw2_sane.f k = some true) :
    groupcontrollaw2_NumberParts.j0 (k + 1) m false = some true := by
  have e1 : wrap64 (Int.tdiv (m : Int) 100) = ((m / 100 : Nat) : Int) := by rw [show (100 : Int) = ((100 : Nat) : Int) from rfl, tdiv_nat]; exact wrap_small _ (by omega) (by omega)
  have e2 : wrap64 (Int.tdiv (m : Int) 10) = ((m / 10 : Nat) : Int) := by rw [show (10 : Int) = ((10 : Nat) : Int) from rfl, tdiv_nat]; exact wrap_small _ (by omega) (by omega)
  have e3 : Int.tmod ((m / 10 : Nat) : Int) 10 = ((m / 10 % 10 : Nat) : Int) := tmod_nat _ 10
  have s1 : t.size + 1 ≤ 9223372036854775807 := by omega
  have s2 : (t ++ (⟨#[46]⟩ : ByteArray)).size + u.size ≤ 9223372036854775807 := by
    have es : (⟨#[46]⟩ : ByteArray).size = 1 := rfl
    rw [ByteArray.size_append, es]; omega
  have w1 : ((m / 100 : Nat) : Int) * 100 = wrap64 (((m / 100 : Nat) : Int) * 100) := (wrap_small _ (by omega) (by omega)).symm
  have w2 : ((m / 10 : Nat) : Int) * 10 = wrap64 (((m / 10 : Nat) : Int) * 10) := (wrap_small _ (by omega) (by omega)).symm
  simp only [groupcontrollaw2_NumberParts.j0]
  rw [if_neg (by decide), e1, ht, Option.bind_some, hh, Option.bind_some, Option.bind_some, if_pos s1, e2, e3, hu, Option.bind_some, if_pos s2, hh', Option.bind_some, if_pos rfl, if_pos rfl, if_pos w1, if_pos w2, hs, Option.bind_some]
theorem parts_tail (m : Nat) (h : m < 10000) : groupcontrollaw2_NumberParts.j0 21 m false = some true := by
  obtain ⟨t, ht, ts, hh⟩ := whole_ok (m / 100) (by omega)
  obtain ⟨t', u, ht', hu, ts', us, hh'⟩ := tenth_ok (m / 10) (by omega)
  have e4 : m / 10 / 10 = m / 100 := by omega
  rw [e4] at ht'
  obtain rfl : t = t' := Option.some.inj (ht.symm.trans ht')
  exact parts_tail_at 20 m h t u ht hu ts us hh hh' sane_ok

theorem NumberParts : groupcontrollaw2_NumberParts.Pure := by
  intro a0 a1 w0 w1
  have b0 : 0 ≤ a0 ∧ a0 ≤ 65535 := by
    have e1 : IntKind.u16.min = 0 := rfl
    have e2 : IntKind.u16.max = 65535 := rfl
    simpa [Lit.wf, e1, e2] using w0
  have b1 : 0 ≤ a1 ∧ a1 ≤ 65535 := by
    have e1 : IntKind.u16.min = 0 := rfl
    have e2 : IntKind.u16.max = 65535 := rfl
    simpa [Lit.wf, e1, e2] using w1
  obtain ⟨x, rfl⟩ := Int.eq_ofNat_of_zero_le b0.1
  obtain ⟨y, rfl⟩ := Int.eq_ofNat_of_zero_le b1.1
  have ex : Int.tmod (wrap64 (x : Int)) 10000 = ((x % 10000 : Nat) : Int) := by rw [wrap_small _ (by omega) (by omega)]; exact tmod_nat x 10000
  have ey : Int.tmod (wrap64 (y : Int)) 10000 = ((y % 10000 : Nat) : Int) := by rw [wrap_small _ (by omega) (by omega)]; exact tmod_nat y 10000
  obtain ⟨s, hs, hs'⟩ := hund_back (x % 10000) (by omega)
  obtain ⟨u, hu, hu'⟩ := hund_back (y % 10000) (by omega)
  refine ⟨21, ?_⟩
  unfold groupcontrollaw2_NumberParts.f
  rw [ex, ey, hs]
  simp only [Option.bind_some]
  rw [hu]
  simp only [Option.bind_some]
  rw [hs' 21 (by omega)]
  simp only [Option.bind_some]
  rw [hu' 21 (by omega)]
  simp only [Option.bind_some, bne_self_eq_false, if_true]
  exact parts_tail _ (by omega)
end Go.Proofs.YtgfbamddaepebaaDoor.Pure
