/- Contracts of functions of the program and of its references, over the translation, for values that can be read as data: each call comes to what a Lean function says. Written by the kit's printer and a program of this session's, with hand-made contracts spliced in. -/
import Derived.Test.YtjpbdkfgblmioaaDoorPAx0
import Derived.Test.YtjpbdkfgblmioaaDoorPAx5
namespace Go.Proofs.YtjpbdkfgblmioaaDoor.PA
open Go.RowKit Go.Proofs.YtjpbdkfgblmioaaDoorW.PrintWords Go.Proofs.YtjpbdkfgblmioaaDoorW.PrintLast Go.Proofs.YtjpbdkfgblmioaaDoorW.PrintMore
set_option linter.unusedVariables false
set_option linter.unusedSimpArgs false

/-! ### name_Valid: function 9 (by hand) -/
theorem ba_loop (bs : ByteArray) : ∀ (n i : Nat) (r : List UInt8), bs.size - i = n → ByteArray.toList.loop bs i r = r.reverse ++ bs.data.toList.drop i
  | 0, i, r, h => by
    rw [ByteArray.toList.loop, if_neg (by omega), List.drop_eq_nil_of_le (by simp; show bs.size ≤ i; omega), List.append_nil]
  | n + 1, i, r, h => by
    have hi : i < bs.size := by omega
    have hd : bs.data.toList.drop i = bs.data.toList[i]'(by simpa using hi) :: bs.data.toList.drop (i + 1) := List.drop_eq_getElem_cons _
    rw [ByteArray.toList.loop, if_pos hi, ba_loop bs n (i + 1) _ (by omega), hd]
    have e : bs.get! i = bs.data.toList[i]'(by simpa using hi) := by
      simp [ByteArray.get!]
      exact getElem!_pos bs.data i hi
    rw [e]; simp
theorem ba_toList (bs : ByteArray) : bs.toList = bs.data.toList := by
  unfold ByteArray.toList; rw [ba_loop bs bs.size 0 [] (by omega)]; simp

/-- Can a byte stand in a name? -/
def innerB (n : Nat) : Bool := (decide (97 ≤ n) && decide (n ≤ 122)) || (decide (65 ≤ n) && decide (n ≤ 90)) || (decide (48 ≤ n) && decide (n ≤ 57)) || n == 95 || n == 45
theorem inner_256 : ∀ n : Nat, n < 256 → name_inner.f (n : Int) = some (innerB n) := by decide +kernel
theorem btN_at (s : ByteArray) (j : Nat) (h : j < s.size) : bt s (j : Int) = ((s[j].toNat : Nat) : Int) := by
  simp [bt, h]
theorem inner_bt (s : ByteArray) (j : Nat) (h : j < s.size) : name_inner.f (bt s j) = some (innerB (s[j].toNat)) := by
  rw [btN_at s j h]
  exact inner_256 _ (s[j].toNat_lt)
/-- Do all bytes from a place on stand in names? -/
def inFrom (s : ByteArray) (pos : Nat) : Bool := (s.data.toList.drop pos).all (fun c => innerB c.toNat)
theorem inFrom_step (s : ByteArray) (pos : Nat) (h : pos < s.size) : inFrom s pos = (innerB s[pos].toNat && inFrom s (pos + 1)) := by
  have e : s.data.toList.drop pos = s[pos] :: s.data.toList.drop (pos + 1) := by
    rw [List.drop_eq_getElem_cons (by simpa using h)]; rfl
  unfold inFrom
  rw [e, List.all_cons]
theorem inFrom_end (s : ByteArray) (pos : Nat) (h : ¬ pos < s.size) : inFrom s pos = true := by
  unfold inFrom
  rw [List.drop_eq_nil_of_le (by simpa using h)]; rfl
def vB (s : ByteArray) : Bool := inFrom s 0 && (decide (0 < s.size) && decide (s.size ≤ 32) && (bt s 0 != 45))
def name_Valid.f (s : ByteArray) : Option Bool := if s.size ≤ 9223372036854775807 then some (vB s) else none

theorem conv_bytes (s : ByteArray) (w : World) : ∃ (cap : Nat) (w1 : World), (convert 9 49 (.string s)).run Tryd.prog w = .ok (.slice (some ⟨w.heap.size, 0, none⟩) s.size cap) w1 ∧
    (∀ j : Nat, j < s.size → w1.cell? ⟨w.heap.size, j, none⟩ = some (.int .u8 (bt s j))) ∧ w.heap.size < w1.heap.size ∧ Below w.heap.size w w1 := by
  refine ⟨_, _, run_bytes_of_string w 9 49 5 s Tryd.underlying9 Tryd.underlying49 Tryd.underlying5, fun j hj => ?_, by simp, ?_⟩
  · rw [btN_at s j hj]
    have : (bytesRow s (grownCap w s.size 0 5))[j]? = some (.int .u8 ((s[j].toNat : Nat) : Int)) := by
      unfold bytesRow
      rw [Array.getElem?_append_left (by simpa using hj), Array.getElem?_map]
      have : s.data[j]? = some s[j] := by rw [Array.getElem?_eq_getElem hj]; rfl
      rw [this]; rfl
    have e : ∀ o : Obj, (w.drew.alloc o).heap[w.heap.size]? = some o := fun o => by show (w.heap.push o)[w.heap.size]? = some o; simp
    unfold World.cell?
    rw [e]
    exact this
  · exact ((Below.refl _ w).drew).alloc (Nat.le_refl _) _

set_option maxHeartbeats 2000000 in
theorem name_Valid.calls (a0 : ByteArray) (r : Bool) (w : World) (h : name_Valid.f a0 = some r) :
    Calls Tryd.prog 9 #[.string a0] w fun e w' => e = .returned (.bool r) ∧ Below w.heap.size w w' := by
  unfold name_Valid.f at h
  split at h
  case isFalse => cases h
  case isTrue hsz =>
  have HR := Aside0.mk (Option.some.inj h)
  clear h
  obtain ⟨cap, w1, hconv, hcell, hB, hbel⟩ := conv_bytes a0 w
  have HCE := Aside0.mk hcell
  have HBE := Aside0.mk hbel
  clear hcell hbel
  go_enter Tryd.func9, Tryd.ntmps9
  go_wp2
  go_loopg [4, 8] a0.size (fun gg _ s8 wr => ∃ kk : Nat, kk ≤ a0.size ∧ a0.size - kk ≤ gg ∧ s8 = .int .i64 kk ∧ Aside0 (Below w1.heap.size w1 wr) ∧ Aside0 (inFrom a0 0 = inFrom a0 kk))
  case atStart => exact ⟨0, Nat.zero_le _, by omega, rfl, ⟨Below.refl _ _⟩, ⟨rfl⟩⟩
  case round =>
    obtain ⟨kk, hkk, hg, rfl, BW, AN⟩ := hrel
    by_cases hlt : kk < a0.size
    · have hltz : (kk : Int) < (a0.size : Int) := by omega
      have hc := (BW.out.cell (p := ⟨w.heap.size, kk, none⟩) hB).trans (HCE.out kk hlt)
      have hcall := name_inner.calls _ _ wr (inner_bt a0 kk hlt)
      have hst := Aside0.mk (inFrom_step a0 kk hlt)
      cases hq : innerB a0[kk].toNat with
      | true =>
        rw [hq] at hcall
        have HQ := Aside0.mk hq
        clear hq
        go_wp2_with (go_at_call 28; refine hcall.mono ?_; rintro e w' ⟨rfl, hb'⟩)
        go_roundg (a0.size - (kk + 1))
        case measure => omega
        case rel => exact ⟨kk + 1, by omega, by omega, by go_num, ⟨BW.out.trans (hb'.below.mono BW.out.size)⟩, ⟨by rw [AN.out, hst.out, HQ.out]; rfl⟩⟩
      | false =>
        rw [hq] at hcall
        have HQ := Aside0.mk hq
        clear hq
        go_wp2_with (go_at_call 28; refine hcall.mono ?_; rintro e w' ⟨rfl, hb'⟩)
        go_ret
        exact ⟨by rw [← HR.out]; unfold vB; rw [AN.out, hst.out, HQ.out]; rfl, HBE.out.trans ((BW.out.trans (hb'.below.mono BW.out.size)).mono (by omega))⟩
    · have hltz : ¬ (kk : Int) < (a0.size : Int) := by omega
      have hk : kk = a0.size := by omega
      subst hk
      have HA := Aside0.mk (AN.out.trans (inFrom_end a0 a0.size (by omega)))
      clear AN
      by_cases h0 : a0.size = 0
      · have he : a0 = ⟨#[]⟩ := ByteArray.ext (Array.eq_empty_of_size_eq_zero h0)
        subst he
        go_wp2
        go_ret
        exact ⟨by rw [← HR.out]; rfl, HBE.out.trans (BW.out.mono (by omega))⟩
      · have hne : a0.toList.isEmpty = false := by
          rw [ba_toList, List.isEmpty_eq_false_iff]
          intro h
          have := congrArg List.length h
          exact h0 (by simpa using this)
        have hpos : (0 : Int) < a0.size := by omega
        have hpos' : 0 < a0.size := by omega
        have hbt : Aside0 (bt a0 0 = ((a0[0].toNat : Nat) : Int)) := Aside0.mk (btN_at a0 0 hpos')
        by_cases h1 : (a0.size : Int) ≤ 32
        · have h1' : decide ((a0.size : Int) ≤ 32) = true := by simpa using h1
          go_wp2
          go_ret
          exact ⟨by rw [← HR.out]; unfold vB; rw [HA.out, hbt.out, decide_eq_true hpos', decide_eq_true (by omega)]; rfl, HBE.out.trans (BW.out.mono (by omega))⟩
        · have h1' : decide ((a0.size : Int) ≤ 32) = false := by simpa using h1
          go_wp2
          go_ret
          exact ⟨by rw [← HR.out]; unfold vB; rw [decide_eq_false (show ¬ a0.size ≤ 32 by omega)]; simp, HBE.out.trans (BW.out.mono (by omega))⟩

end Go.Proofs.YtjpbdkfgblmioaaDoor.PA
