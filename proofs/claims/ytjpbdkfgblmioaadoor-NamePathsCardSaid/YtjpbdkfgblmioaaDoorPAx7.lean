/- Contracts of functions of the program and of its references, over the translation, for values that can be read as data: each call comes to what a Lean function says. Written by the kit's printer and a program of this session's, with hand-made contracts spliced in. -/
import Derived.Test.YtjpbdkfgblmioaaDoorPAx0
import Derived.Test.YtjpbdkfgblmioaaDoorPAx6
namespace Go.Proofs.YtjpbdkfgblmioaaDoor.PA
open Go.RowKit Go.Proofs.YtjpbdkfgblmioaaDoorW.PrintWords Go.Proofs.YtjpbdkfgblmioaaDoorW.PrintLast Go.Proofs.YtjpbdkfgblmioaaDoorW.PrintMore
set_option linter.unusedVariables false
set_option linter.unusedSimpArgs false

/-! ### name_check: function 26 (by hand) -/
/-- What is wrong with the names of a path. -/
def chkL (l : List ByteArray) : Int := if l.any (fun s => !vB s) then 2 else if 8 < l.length then 7 else 0
def name_check.f (l : List ByteArray) : Option Int := if ∀ s ∈ l, s.size ≤ 9223372036854775807 then some (chkL l) else none
/-- The place of the first string that is no name. -/
def badIx : List ByteArray → Int
  | [] => -1
  | s :: l => if vB s then (if badIx l < 0 then -1 else badIx l + 1) else 0
theorem badIx_any : ∀ l : List ByteArray, decide (badIx l ≥ 0) = l.any (fun s => !vB s)
  | [] => rfl
  | s :: l => by
    have ih := badIx_any l
    unfold badIx
    rw [List.any_cons]
    cases h : vB s with
    | true =>
      rw [if_pos rfl, ← ih]
      by_cases h2 : badIx l < 0
      · rw [if_pos h2]; simp; omega
      · rw [if_neg h2]; simp; omega
    | false => rw [if_neg (by decide)]; simp
theorem badIx_miss : ∀ l : List ByteArray, (∀ j : Nat, j < l.length → vB (rdOf ByteArray.empty l j) = true) → badIx l = -1
  | [], _ => rfl
  | s :: l, h => by
    have h0 : vB s = true := by simpa [rdOf] using h 0 (by simp)
    have ih := badIx_miss l (fun j hj => by simpa [rdOf] using h (j + 1) (by simp; omega))
    simp [badIx, h0, ih]
theorem badIx_hit : ∀ (l : List ByteArray) (k : Nat), k < l.length → (∀ j : Nat, j < k → vB (rdOf ByteArray.empty l j) = true) → vB (rdOf ByteArray.empty l k) = false → badIx l = k
  | [], k, hk, _, _ => by simp at hk
  | s :: l, 0, _, _, h => by
    have h0 : vB s = false := by simpa [rdOf] using h
    simp [badIx, h0]
  | s :: l, k + 1, hk, h, he => by
    have h0 : vB s = true := by simpa [rdOf] using h 0 (by omega)
    have ih := badIx_hit l k (by simpa using hk) (fun j hj => by simpa [rdOf] using h (j + 1) (by omega)) (by simpa [rdOf] using he)
    simp [badIx, h0, ih]
    omega
theorem rdOf_mem (l : List ByteArray) (k : Nat) (h : k < l.length) : rdOf ByteArray.empty l (k : Int) ∈ l := by
  have : rdOf ByteArray.empty l (k : Int) = l[k] := by simp [rdOf, h]
  rw [this]; exact List.getElem_mem h
theorem check_c (W : World) (x : ByteArray) (hx : x.size ≤ 9223372036854775807) :
    Calls Tryd.prog 34 #[.string x] W fun e w' => e = .returned (.bool (!vB x)) ∧ Below W.heap.size W w' := by
  have hcall := name_Valid.calls x (vB x) W (by unfold name_Valid.f; rw [if_pos hx])
  go_enter Tryd.func34, Tryd.ntmps34
  go_wp2_with (go_at_call 9; refine hcall.mono ?_; rintro e w' ⟨rfl, hb'⟩)
  go_ret
  exact ⟨rfl, hb'⟩

set_option maxHeartbeats 2000000 in
theorem check_ix (A : Option Addr) (c : Nat) (l : List ByteArray) (w : World) (hr : Kd.C Kd.string w A l.length l) (hl : l.length ≤ c) (hsz : ∀ s ∈ l, s.size ≤ 9223372036854775807) :
    Calls Tryd.prog 42 #[.slice A l.length c, .func (.func 34) #[] #[]] w fun e w' => e = .returned (.int .i64 (badIx l)) ∧ Below w.heap.size w w' := by
  have hbig : l.length ≤ 9223372036854775807 := hr.2.1
  have HR := Aside0.mk hr
  have HZ := Aside0.mk hsz
  clear hr hsz
  go_enter Tryd.func42, Tryd.ntmps42
  go_wp2
  go_loopg [5, 8] l.length (fun gg _ s8 wr => ∃ kk : Nat, kk ≤ l.length ∧ l.length - kk ≤ gg ∧ s8 = .int .i64 kk ∧ Aside0 (Below w.heap.size w wr) ∧ Aside0 (∀ j : Nat, j < kk → vB (rdOf ByteArray.empty l j) = true))
  case atStart => exact ⟨0, Nat.zero_le _, by omega, rfl, ⟨Below.refl _ w⟩, ⟨fun j hj => absurd hj (Nat.not_lt_zero _)⟩⟩
  case round =>
    obtain ⟨kk, hkk, hg, rfl, BW, AN⟩ := hrel
    by_cases hlt : kk < l.length
    · have hltz : (kk : Int) < (l.length : Int) := by omega
      obtain ⟨ad0, e0, x0⟩ := Kd.at_string HR.out (kk : Int) (by omega) (by omega)
      cases e0
      replace x0 := (BW.out.cell (World.block_lt_of_cell? w _ x0)).trans x0
      simp only [Int.toNat_natCast] at x0
      have hcall := check_c wr (rdOf ByteArray.empty l kk) (HZ.out _ (rdOf_mem l kk hlt))
      cases hq : vB (rdOf ByteArray.empty l kk) with
      | false =>
        rw [hq] at hcall
        have HQ := Aside0.mk hq
        clear hq
        go_wp2_with (go_at_call 34; refine hcall.mono ?_; rintro e w' ⟨rfl, hb'⟩)
        go_ret
        exact ⟨by rw [badIx_hit l kk hlt AN.out HQ.out]; rfl, BW.out.trans (hb'.mono BW.out.size)⟩
      | true =>
        rw [hq] at hcall
        have HQ := Aside0.mk hq
        clear hq
        go_wp2_with (go_at_call 34; refine hcall.mono ?_; rintro e w' ⟨rfl, hb'⟩)
        go_roundg (l.length - (kk + 1))
        case measure => omega
        case rel =>
          refine ⟨kk + 1, by omega, by omega, by go_num, ⟨BW.out.trans (hb'.mono BW.out.size)⟩, ⟨fun j hj => ?_⟩⟩
          by_cases e : j = kk
          · subst e; exact HQ.out
          · exact AN.out j (by omega)
    · have hltz : ¬ (kk : Int) < (l.length : Int) := by omega
      have : kk = l.length := by omega
      subst this
      go_wp2
      go_ret
      exact ⟨by rw [badIx_miss l AN.out]; rfl, BW.out⟩
theorem check_contains (A : Option Addr) (c : Nat) (l : List ByteArray) (w : World) (hr : Kd.C Kd.string w A l.length l) (hl : l.length ≤ c) (hsz : ∀ s ∈ l, s.size ≤ 9223372036854775807) :
    Calls Tryd.prog 33 #[.slice A l.length c, .func (.func 34) #[] #[]] w fun e w' => e = .returned (.bool (l.any (fun s => !vB s))) ∧ Below w.heap.size w w' := by
  have hcall := check_ix A c l w hr hl hsz
  have HE := Aside0.mk (badIx_any l)
  clear hr hsz
  generalize l.any (fun s => !vB s) = q at HE ⊢
  go_enter Tryd.func33, Tryd.ntmps33
  go_wp2_with (go_at_call 42; refine hcall.mono ?_; rintro e w' ⟨rfl, hb'⟩)
  go_ret
  exact ⟨by rw [← HE.out]; rfl, hb'⟩
set_option maxHeartbeats 2000000 in
theorem name_check.calls (A0 : Option Addr) (c0 : Nat) (l0 : List ByteArray) (r : Int) (w : World) (hr0 : Kd.C Kd.string w A0 l0.length l0) (hc0 : l0.length ≤ c0) (h : name_check.f l0 = some r) :
    Calls Tryd.prog 26 #[.slice A0 l0.length c0] w fun e w' => e = .returned (.int .i64 r) ∧ Below w.heap.size w w' := by
  unfold name_check.f at h
  split at h
  case isFalse => cases h
  case isTrue hsz =>
  have HE := Aside0.mk (Option.some.inj h)
  clear h
  have hcall := check_contains A0 c0 l0 w hr0 hc0 hsz
  clear hr0 hsz
  cases hq : l0.any (fun s => !vB s) with
  | true =>
    rw [hq] at hcall
    have HQ := Aside0.mk hq
    clear hq
    go_enter Tryd.func26, Tryd.ntmps26
    go_wp2_with (go_at_call 33; refine hcall.mono ?_; rintro e w' ⟨rfl, hb'⟩)
    go_ret
    exact ⟨by rw [← HE.out]; unfold chkL; rw [HQ.out]; rfl, hb'⟩
  | false =>
    rw [hq] at hcall
    have HQ := Aside0.mk hq
    clear hq
    by_cases h8 : 8 < l0.length
    · have h8b : decide ((l0.length : Int) > 8) = true := by simp; omega
      have h8c : (8 : Int) < (l0.length : Int) := by omega
      go_enter Tryd.func26, Tryd.ntmps26
      go_wp2_with (go_at_call 33; refine hcall.mono ?_; rintro e w' ⟨rfl, hb'⟩)
      go_ret
      exact ⟨by rw [← HE.out]; unfold chkL; rw [HQ.out, if_neg (by decide), if_pos h8]; rfl, hb'⟩
    · have h8b : decide ((l0.length : Int) > 8) = false := by simp; omega
      have h8c : ¬ (8 : Int) < (l0.length : Int) := by omega
      go_enter Tryd.func26, Tryd.ntmps26
      go_wp2_with (go_at_call 33; refine hcall.mono ?_; rintro e w' ⟨rfl, hb'⟩)
      go_ret
      exact ⟨by rw [← HE.out]; unfold chkL; rw [HQ.out, if_neg (by decide), if_neg h8]; rfl, hb'⟩

end Go.Proofs.YtjpbdkfgblmioaaDoor.PA
