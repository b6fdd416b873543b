/- Contracts of functions of the program and of its references, over the translation, for values that can be read as data: each call comes to what a Lean function says. Written by the kit's printer and a program of this session's, with hand-made contracts spliced in. -/
import Derived.Test.YtjpbdkfgblmioaaDoorPAx0
import Derived.Test.YtjpbdkfgblmioaaDoorPAx4
namespace Go.Proofs.YtjpbdkfgblmioaaDoor.PA
open Go.RowKit Go.Proofs.YtjpbdkfgblmioaaDoorW.PrintWords Go.Proofs.YtjpbdkfgblmioaaDoorW.PrintLast Go.Proofs.YtjpbdkfgblmioaaDoorW.PrintMore
set_option linter.unusedVariables false
set_option linter.unusedSimpArgs false

/-! ### strings_Join: function 27 (by hand) -/
def strings_Join.f (l : List ByteArray) (sep : ByteArray) : Option ByteArray :=
  if l.length ≤ 140737488355328 ∧ (Lib.join (l.map (·.data.toList)) sep.data.toList).length ≤ 140737488355328 then some (mkB (Lib.join (l.map (·.data.toList)) sep.data.toList)) else none
theorem strings_Join.calls (A0 : Option Addr) (c0 : Nat) (l0 : List ByteArray) (a1 : ByteArray) (r : ByteArray) (w : World) (hr0 : Kd.C Kd.string w A0 l0.length l0) (hc0 : l0.length ≤ c0) (h : strings_Join.f l0 a1 = some r) :
    Calls Tryd.prog 27 #[.slice A0 l0.length c0, .string a1] w fun e w' => e = .returned (.string r) ∧ Below w.heap.size w w' := by
  unfold strings_Join.f at h
  split at h
  case isFalse => cases h
  case isTrue hs =>
  obtain rfl := Option.some.inj h
  cases l0 with
  | nil => exact (Tryd.strings_Join_none A0 c0 a1 w).mono fun e w' ⟨he, hw⟩ => ⟨he, hw ▸ Below.refl _ _⟩
  | cons x l =>
    obtain ⟨ad, e, hx⟩ := Kd.at_string hr0 0 (by omega) (by simp)
    subst e
    have hsp : ad.spot = none := by
      cases hq : ad.spot with
      | none => rfl
      | some z =>
        exfalso
        rw [show ad.add (0 : Int).toNat = ad from rfl] at hx
        unfold World.cell? at hx
        split at hx
        · rw [hq] at hx; simp at hx
        · cases hx
    obtain ⟨bk, o, q⟩ := ad
    subst hsp
    refine Tryd.strings_Join bk o c0 (x :: l) a1 w ?_ ?_ hs.1 hc0 hs.2
    · intro j y hj
      have hlt := (List.getElem?_eq_some_iff.1 hj)
      obtain ⟨hl, he⟩ := hlt
      obtain ⟨ad, e, hy⟩ := Kd.at_string hr0 (j : Int) (by omega) (by omega)
      cases e
      rw [Int.toNat_natCast] at hy
      have e1 : (Addr.add ⟨bk, o, none⟩ j) = ⟨bk, o + j, none⟩ := by unfold Addr.add; split <;> simp_all
      rw [e1] at hy
      rw [hy]
      have : rdOf ByteArray.empty (x :: l) (j : Int) = y := by
        unfold rdOf
        rw [Int.toNat_natCast, List.getD_eq_getElem?_getD, hj]; rfl
      rw [this]
    · exact World.block_lt_of_cell? w _ hx

end Go.Proofs.YtjpbdkfgblmioaaDoor.PA
