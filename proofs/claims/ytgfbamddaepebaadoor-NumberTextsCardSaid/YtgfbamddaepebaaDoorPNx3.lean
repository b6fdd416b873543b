/- Contracts of functions of the program and of its references, over the translation, for values that can be read as data: each call comes to what a Lean function says. Written by the kit's printer and a program of this session's, with hand-made contracts spliced in. -/
import Derived.Test.YtgfbamddaepebaaDoorPNx0
namespace Go.Proofs.YtgfbamddaepebaaDoor.PN
open Go.RowKit Go.Proofs.YtgfbamddaepebaaDoorW.PrintWords Go.Proofs.YtgfbamddaepebaaDoorW.PrintLast Go.Proofs.YtgfbamddaepebaaDoorW.PrintMore
set_option linter.unusedVariables false
set_option linter.unusedSimpArgs false

/-! ### strings_Cut: function 21 (by hand) -/
/-- The two parts of a string around the first place of a byte. -/
def cut1 (s : ByteArray) (c : UInt8) : ByteArray × ByteArray × Bool :=
  if 0 ≤ Lib.indexByte s.data.toList c then (s.extract 0 (Lib.indexByte s.data.toList c).toNat, s.extract ((Lib.indexByte s.data.toList c).toNat + 1) s.size, true) else (s, ⟨#[]⟩, false)
def strings_Cut.f (s sep : ByteArray) : Option (ByteArray × ByteArray × Bool) :=
  if s.size ≤ 9223372036854775806 then (match sep.data.toList with | [c] => some (cut1 s c) | _ => none) else none
theorem indexByte_bd (c : UInt8) : ∀ l : List UInt8, -1 ≤ Lib.indexByte l c ∧ Lib.indexByte l c < l.length
  | [] => by simp [Lib.indexByte]
  | b :: l => by
    have ih := indexByte_bd c l
    unfold Lib.indexByte
    simp only [List.length_cons]
    split
    · omega
    · split <;> omega
set_option maxHeartbeats 2000000 in
theorem cut_lite (a0 : ByteArray) (c : UInt8) (w : World) (hs : a0.size ≤ 9223372036854775806) :
    Calls Tryd.prog 29 #[.string a0, .string ⟨#[c]⟩] w fun e w' => e = .returned (.tuple #[.string (cut1 a0 c).1, .string (cut1 a0 c).2.1, .bool (cut1 a0 c).2.2]) ∧ ∃ n, w' = w.drewN n := by
  have hb := indexByte_bd c a0.data.toList
  rw [data_length] at hb
  have hi := Tryd.stringslite_Index_one a0 c w
  have HE : cut1 a0 c = if 0 ≤ Lib.indexByte a0.data.toList c then (a0.extract 0 (Lib.indexByte a0.data.toList c).toNat, a0.extract ((Lib.indexByte a0.data.toList c).toNat + 1) a0.size, true) else (a0, ⟨#[]⟩, false) := rfl
  generalize cut1 a0 c = q at HE ⊢
  generalize Lib.indexByte a0.data.toList c = i at hb hi HE
  have HE := Aside0.mk HE
  obtain ⟨hb0, hb1⟩ := hb
  by_cases h0 : 0 ≤ i
  · have E := Aside0.mk (HE.out.trans (if_pos h0))
    clear HE
    obtain ⟨n, rfl⟩ := Int.eq_ofNat_of_zero_le h0
    have hn : n < a0.size := by omega
    have hw : IntKind.i64.wrap ((n : Int) + 1) = (n : Int) + 1 := by rw [IntKind.wrap_i64]; omega
    go_enter Tryd.func29, Tryd.ntmps29
    go_wp2_with (go_at_call 32; refine hi.mono ?_; rintro e w' ⟨rfl, rfl⟩)
    go_quiet (fail)
    go_wp2
    go_ret3
    exact ⟨by rw [E.out]; simp, _, rfl⟩
  · have E := Aside0.mk (HE.out.trans (if_neg h0))
    clear HE
    go_enter Tryd.func29, Tryd.ntmps29
    go_wp2_with (go_at_call 32; refine hi.mono ?_; rintro e w' ⟨rfl, rfl⟩)
    go_ret3
    exact ⟨by rw [E.out]; simp, 0, rfl⟩
theorem strings_Cut.calls (a0 : ByteArray) (a1 : ByteArray) (r1 r2 : ByteArray) (r3 : Bool) (w : World) (h : strings_Cut.f a0 a1 = some (r1, r2, r3)) :
    Calls Tryd.prog 21 #[.string a0, .string a1] w fun e w' => e = .returned (.tuple #[.string r1, .string r2, .bool r3]) ∧ Below w.heap.size w w' := by
  unfold strings_Cut.f at h
  split at h
  case isFalse => cases h
  case isTrue hs =>
  split at h
  case h_2 => cases h
  case h_1 c hc =>
  have h1 := Option.some.inj h
  obtain rfl : a1 = ⟨#[c]⟩ := by
    obtain ⟨d⟩ := a1
    congr 1
    exact Array.toList_inj.1 hc
  have hcl := cut_lite a0 c w hs
  rw [h1] at hcl
  clear h h1 hc
  go_enter Tryd.func21, Tryd.ntmps21
  go_wp2_with (go_at_call 29; refine hcl.mono ?_; rintro e w' ⟨rfl, n, rfl⟩)
  go_ret3
  exact ⟨rfl, Drawn0.below ⟨⟨n, rfl⟩⟩⟩

end Go.Proofs.YtgfbamddaepebaaDoor.PN
