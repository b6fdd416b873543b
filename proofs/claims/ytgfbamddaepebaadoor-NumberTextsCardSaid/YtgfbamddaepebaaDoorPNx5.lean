/- Contracts of functions of the program and of its references, over the translation, for values that can be read as data: each call comes to what a Lean function says. Written by the kit's printer and a program of this session's, with hand-made contracts spliced in. -/
import Derived.Test.YtgfbamddaepebaaDoorPNx0
import Derived.Test.YtgfbamddaepebaaDoorPNx4
namespace Go.Proofs.YtgfbamddaepebaaDoor.PN
open Go.RowKit Go.Proofs.YtgfbamddaepebaaDoorW.PrintWords Go.Proofs.YtgfbamddaepebaaDoorW.PrintLast Go.Proofs.YtgfbamddaepebaaDoorW.PrintMore
set_option linter.unusedVariables false
set_option linter.unusedSimpArgs false

/-! ### number_value: function 23 (by hand) -/
/-- The value of the digits, at most 'most'. -/
def valStep (most : Int) (n : Int) (c : UInt8) : Int := min (10 * n + ((c.toNat : Int) - 48)) most
def valOf (s : ByteArray) (most : Int) : Int := s.data.toList.foldl (valStep most) 0
/-- Of digits alone, with a bound that keeps all in range. -/
def number_value.f (s : ByteArray) (most : Int) : Option Int := if dgFrom s 0 = true ∧ 0 ≤ most ∧ most ≤ 100000000000000000 then some (valOf s most) else none
theorem valOf_take (s : ByteArray) (most : Int) (pos : Nat) (h : pos < s.size) : (s.data.toList.take (pos + 1)).foldl (valStep most) 0 = valStep most ((s.data.toList.take pos).foldl (valStep most) 0) s[pos] := by
  rw [List.take_succ_eq_append_getElem (by simpa using h), List.foldl_append]; rfl
theorem dgFrom_all {s : ByteArray} (h : dgFrom s 0 = true) (pos : Nat) (hp : pos < s.size) : 48 ≤ s[pos].toNat ∧ s[pos].toNat ≤ 57 := by
  unfold dgFrom at h
  rw [List.drop_zero, List.all_eq_true] at h
  exact (dgB_iff _).1 (h (s.data.toList[pos]'(by simpa using hp)) (List.getElem_mem _))
theorem valOf_bd (most : Int) (hm : 0 ≤ most) : ∀ (l : List UInt8) (n : Int), (∀ c ∈ l, 48 ≤ c.toNat) → 0 ≤ n → n ≤ most → 0 ≤ l.foldl (valStep most) n ∧ l.foldl (valStep most) n ≤ most
  | [], n, _, h0, h1 => ⟨h0, h1⟩
  | c :: l, n, hl, h0, h1 => by
    have hc := hl c (by simp)
    exact valOf_bd most hm l _ (fun d hd => hl d (by simp [hd])) (by unfold valStep; omega) (by unfold valStep; omega)

set_option maxHeartbeats 2000000 in
theorem number_value.calls (a0 : ByteArray) (a1 : Int) (r : Int) (w : World) (h : number_value.f a0 a1 = some r) :
    Calls Tryd.prog 23 #[.string a0, .int .i64 a1] w fun e w' => e = .returned (.int .i64 r) ∧ Below w.heap.size w w' := by
  unfold number_value.f at h
  split at h
  case isFalse => cases h
  case isTrue hc =>
  obtain rfl := Option.some.inj h
  clear h
  obtain ⟨hd, hm0, hm1⟩ := hc
  have HD := Aside0.mk hd
  clear hd
  go_enter Tryd.func23, Tryd.ntmps23
  go_wp2
  go_loopw [5, 7] (fun v5 v7 w' => ∃ (pos : Nat) (n : Int), w' = w.iter a0 pos ∧ pos ≤ a0.size ∧ v5 = .int .i64 n ∧ 0 ≤ n ∧ n ≤ a1 ∧ Aside0 (n = (a0.data.toList.take pos).foldl (valStep a1) 0)) (fun _ _ w' => a0.size - w'.iterPos w.heap.size)
  case atStart => exact ⟨0, 0, rfl, Nat.zero_le _, rfl, by omega, by omega, ⟨rfl⟩⟩
  case round =>
    obtain ⟨pos, n, rfl, hle, rfl, hn0, hn1, hN⟩ := hrel
    by_cases hp : pos < a0.size
    · obtain ⟨c0, c1⟩ := dgFrom_all HD.out pos hp
      have hnx : ∀ ty, (Instr.next (.pointer (some ⟨w.heap.size, 0, none⟩)) true ty).run Tryd.prog (w.iter a0 pos) = _ := fun ty => run_next_ascii w a0 pos ty hp (by omega)
      have hst := Aside0.mk (valOf_take a0 a1 pos hp)
      generalize (a0[pos]'hp) = c at hnx c0 c1 hst
      generalize hcn : (c.toNat : Int) = cn at hnx
      have HC := Aside0.mk hcn
      have k0 : 48 ≤ cn := by omega
      have k1 : cn ≤ 57 := by omega
      clear hcn c0 c1
      by_cases hlt : a1 < 10 * n + (cn - 48)
      · have hlt' : decide (a1 < 10 * n + (cn - 48)) = true := by simpa using hlt
        go_wp2
        go_roundw
        case rel => exact ⟨pos + 1, a1, rfl, by omega, (by first | rfl | exact congrArg (Value.int .i64) (by omega)), by omega, by omega, ⟨by rw [hst.out, ← hN.out, valStep, HC.out]; omega⟩⟩
        case measure => simp; omega
      · have hlt' : decide (a1 < 10 * n + (cn - 48)) = false := by simpa using hlt
        go_wp2
        go_roundw
        case rel => exact ⟨pos + 1, 10 * n + (cn - 48), rfl, by omega, (by first | rfl | exact congrArg (Value.int .i64) (by omega)), by omega, by omega, ⟨by rw [hst.out, ← hN.out, valStep, HC.out]; omega⟩⟩
        case measure => simp; omega
    · have hnx : ∀ ty, (Instr.next (.pointer (some ⟨w.heap.size, 0, none⟩)) true ty).run Tryd.prog (w.iter a0 pos) = _ := fun ty => run_next_end w a0 pos ty hp
      have E := Aside0.mk (show valOf a0 a1 = n by rw [hN.out, valOf, List.take_of_length_le (by simpa using hp)])
      go_wp2
      go_ret
      exact ⟨by rw [E.out]; rfl, (Below.refl _ w).alloc (Nat.le_refl _) _⟩

end Go.Proofs.YtgfbamddaepebaaDoor.PN
