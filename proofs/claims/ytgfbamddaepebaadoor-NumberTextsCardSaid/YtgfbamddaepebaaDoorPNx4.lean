/- Contracts of functions of the program and of its references, over the translation, for values that can be read as data: each call comes to what a Lean function says. Written by the kit's printer and a program of this session's, with hand-made contracts spliced in. -/
import Derived.Test.YtgfbamddaepebaaDoorPNx0
namespace Go.Proofs.YtgfbamddaepebaaDoor.PN
open Go.RowKit Go.Proofs.YtgfbamddaepebaaDoorW.PrintWords Go.Proofs.YtgfbamddaepebaaDoorW.PrintLast Go.Proofs.YtgfbamddaepebaaDoorW.PrintMore
set_option linter.unusedVariables false
set_option linter.unusedSimpArgs false

/-! ### number_digits: function 22 (by hand) -/
theorem ba_loop (bs : ByteArray) : ∀ (n i : Nat) (r : List UInt8), bs.size - i = n → ByteArray.toList.loop bs i r = r.reverse ++ bs.data.toList.drop i
  | 0, i, r, h => by
    rw [ByteArray.toList.loop, if_neg (by omega), List.drop_eq_nil_of_le (by simp; show bs.size ≤ i; omega), List.append_nil]
  | n + 1, i, r, h => by
    have hi : i < bs.size := by omega
    have hd : bs.data.toList.drop i = bs.data.toList[i]'(by simpa using hi) :: bs.data.toList.drop (i + 1) := List.drop_eq_getElem_cons _
    rw [ByteArray.toList.loop, if_pos hi, ba_loop bs n (i + 1) _ (by omega), hd]
    have e : bs.get! i = bs.data.toList[i]'(by simpa using hi) := by
      simp [ByteArray.get!]
      exact getElem!_pos bs.data i hi
    rw [e]; simp
theorem ba_toList (bs : ByteArray) : bs.toList = bs.data.toList := by
  unfold ByteArray.toList; rw [ba_loop bs bs.size 0 [] (by omega)]; simp

/-- Is a byte a digit? -/
def dgB (c : UInt8) : Bool := decide (48 ≤ c.toNat) && decide (c.toNat ≤ 57)
theorem dgB_iff (c : UInt8) : dgB c = true ↔ 48 ≤ c.toNat ∧ c.toNat ≤ 57 := by simp [dgB]
/-- Are all bytes from pos on digits? -/
def dgFrom (s : ByteArray) (pos : Nat) : Bool := (s.data.toList.drop pos).all dgB
def number_digits.f (s : ByteArray) : Option Bool := some (!s.data.toList.isEmpty && dgFrom s 0)

theorem drop_at (s : ByteArray) (pos : Nat) (h : pos < s.size) : s.data.toList.drop pos = s[pos] :: s.data.toList.drop (pos + 1) := by
  rw [List.drop_eq_getElem_cons (by simpa using h)]; rfl
theorem dgFrom_step (s : ByteArray) (pos : Nat) (h : pos < s.size) : dgFrom s pos = (dgB s[pos] && dgFrom s (pos + 1)) := by
  unfold dgFrom
  rw [drop_at s pos h, List.all_cons]
theorem dgFrom_end (s : ByteArray) (pos : Nat) (h : ¬ pos < s.size) : dgFrom s pos = true := by
  unfold dgFrom
  rw [List.drop_eq_nil_of_le (by simpa using h)]; rfl

set_option maxHeartbeats 2000000 in
theorem number_digits.calls (a0 : ByteArray) (r : Bool) (w : World) (h : number_digits.f a0 = some r) :
    Calls Tryd.prog 22 #[.string a0] w fun e w' => e = .returned (.bool r) ∧ Below w.heap.size w w' := by
  obtain rfl := Option.some.inj h
  clear h
  go_enter Tryd.func22, Tryd.ntmps22
  go_wp2
  go_loopw [2, 4] (fun v2 v4 w' => ∃ (pos : Nat), w' = w.iter a0 pos ∧ pos ≤ a0.size ∧ Aside0 (dgFrom a0 0 = dgFrom a0 pos)) (fun _ _ w' => a0.size - w'.iterPos w.heap.size)
  case atStart => exact ⟨0, rfl, Nat.zero_le _, ⟨rfl⟩⟩
  case round =>
    obtain ⟨pos, rfl, hle, hd⟩ := hrel
    by_cases hp : pos < a0.size
    · have hstep := Aside0.mk (dgFrom_step a0 pos hp)
      by_cases ha : (a0[pos]'hp).toNat < 128
      · have hnx : ∀ ty, (Instr.next (.pointer (some ⟨w.heap.size, 0, none⟩)) true ty).run Tryd.prog (w.iter a0 pos) = _ := fun ty => run_next_ascii w a0 pos ty hp ha
        by_cases h1 : (a0[pos]'hp).toNat < 48
        · have h1' : decide (((a0[pos]'hp).toNat : Int) < 48) = true := by simp; omega
          have e : number_digits.f a0 = some false := by
            have : dgB (a0[pos]'hp) = false := by simp [dgB]; omega
            simp [number_digits.f, hd.out, hstep.out, this]
          have E := Aside0.mk (Option.some.inj e)
          clear e
          go_wp2
          go_ret
          exact ⟨by rw [E.out]; rfl, (Below.refl _ w).alloc (Nat.le_refl _) _⟩
        · have h1' : decide (((a0[pos]'hp).toNat : Int) < 48) = false := by simp; omega
          by_cases h2 : 57 < (a0[pos]'hp).toNat
          · have h2' : decide (57 < ((a0[pos]'hp).toNat : Int)) = true := by simp; omega
            have e : number_digits.f a0 = some false := by
              have : dgB (a0[pos]'hp) = false := by simp [dgB]; omega
              simp [number_digits.f, hd.out, hstep.out, this]
            have E := Aside0.mk (Option.some.inj e)
            clear e
            go_wp2
            go_ret
            exact ⟨by rw [E.out]; rfl, (Below.refl _ w).alloc (Nat.le_refl _) _⟩
          · have h2' : decide (57 < ((a0[pos]'hp).toNat : Int)) = false := by simp; omega
            have e : dgFrom a0 pos = dgFrom a0 (pos + 1) := by
              have : dgB (a0[pos]'hp) = true := by simp [dgB]; omega
              simp [hstep.out, this]
            have E := Aside0.mk (hd.out.trans e)
            clear e
            go_wp2
            go_roundw
            case rel => exact ⟨pos + 1, rfl, by omega, E⟩
            case measure => simp; omega
      · have hh := (decode_high a0 pos hp (by omega)).1
        have hnx : ∀ ty, (Instr.next (.pointer (some ⟨w.heap.size, 0, none⟩)) true ty).run Tryd.prog (w.iter a0 pos) = _ := fun ty => run_next_any w a0 pos ty hp
        have h1' : decide (((Utf8.decode a0 pos).1 : Int) < 48) = false := by simp; omega
        have h2' : decide (57 < ((Utf8.decode a0 pos).1 : Int)) = true := by simp; omega
        have e : number_digits.f a0 = some false := by
          have : dgB (a0[pos]'hp) = false := by simp [dgB]; omega
          simp [number_digits.f, hd.out, hstep.out, this]
        have E := Aside0.mk (Option.some.inj e)
        clear e
        go_wp2
        go_ret
        exact ⟨by rw [E.out]; rfl, (Below.refl _ w).alloc (Nat.le_refl _) _⟩
    · have hnx : ∀ ty, (Instr.next (.pointer (some ⟨w.heap.size, 0, none⟩)) true ty).run Tryd.prog (w.iter a0 pos) = _ := fun ty => run_next_end w a0 pos ty hp
      have e : number_digits.f a0 = some (!a0.data.toList.isEmpty) := by
        simp [number_digits.f, hd.out, dgFrom_end a0 pos hp]
      have E := Aside0.mk (Option.some.inj e)
      clear e
      go_wp2
      go_ret
      exact ⟨by rw [E.out, ← ba_toList]; rfl, (Below.refl _ w).alloc (Nat.le_refl _) _⟩

end Go.Proofs.YtgfbamddaepebaaDoor.PN
