/- Contracts of functions of the program and of its references, over the translation, for values that can be read as data: each call comes to what a Lean function says. Written by the kit's printer and a program of this session's, with hand-made contracts spliced in. -/
import Derived.Test.YtancnonigponaaaPVx0
namespace Go.Proofs.Ytancnonigponaaa.PV
open Go.RowKit Go.Proofs.YtancnonigponaaaW.PrintWords Go.Proofs.YtancnonigponaaaW.PrintLast Go.Proofs.YtancnonigponaaaW.PrintMore
set_option linter.unusedVariables false
set_option linter.unusedSimpArgs false

/-! ### virtual_at: function 54 (by hand) -/
/-- The place of the first item with an ID, -1 if there is none. -/
def idxOf : List S36 → Int → Int
  | [], _ => -1
  | x :: l, id => if x.f0 = id then 0 else if idxOf l id < 0 then -1 else idxOf l id + 1
theorem idxOf_miss (id : Int) : ∀ l : List S36, (∀ j : Nat, j < l.length → (rd_T36 l j).f0 ≠ id) → idxOf l id = -1
  | [], _ => rfl
  | x :: l, h => by
    have h0 : x.f0 ≠ id := h 0 (by simp)
    have ih := idxOf_miss id l (fun j hj => by simpa [rd_T36] using h (j + 1) (by simp; omega))
    simp [idxOf, h0, ih]
theorem idxOf_hit (id : Int) : ∀ (l : List S36) (k : Nat), k < l.length → (∀ j : Nat, j < k → (rd_T36 l j).f0 ≠ id) → (rd_T36 l k).f0 = id → idxOf l id = k
  | [], k, hk, _, _ => by simp at hk
  | x :: l, 0, _, _, h => by
    have h0 : x.f0 = id := h
    simp [idxOf, h0]
  | x :: l, k + 1, hk, h, he => by
    have h0 : x.f0 ≠ id := h 0 (by omega)
    have ih := idxOf_hit id l k (by simpa using hk) (fun j hj => by simpa [rd_T36] using h (j + 1) (by omega)) (by simpa [rd_T36] using he)
    simp [idxOf, h0, ih]
    omega
def virtual_at.f (_a0 : Int) (l : List S36) (id : Int) : Option Int := some (idxOf l id)

theorem virtual_at_c (W : World) (x : S36) (id : Int) (B : Nat) (hB : B < W.heap.size) (hc : W.cell? ⟨B, 0, none⟩ = some (.int .i64 id)) :
    Calls Try.prog 67 #[.agg #[.int .i64 x.f0, .int .i64 x.f1, .int .i64 x.f2, .bool x.f3], .pointer (some ⟨B, 0, none⟩)] W fun e w' => e = .returned (.bool (x.f0 == id)) ∧ Below W.heap.size W w' := by
  have hne : B ≠ W.heap.size := by omega
  go_enter Try.func67, Try.ntmps67
  go_wp2
  go_ret
  exact ⟨by simp, (Below.refl _ _).alloc (Nat.le_refl _) _⟩

set_option maxHeartbeats 2000000 in
theorem virtual_at_ix (A : Option Addr) (c : Nat) (l : List S36) (id : Int) (B : Nat) (w : World) (hr : Kd.C k36 w A l.length l) (hl : l.length ≤ c) (hB : B < w.heap.size) (hc : w.cell? ⟨B, 0, none⟩ = some (.int .i64 id)) :
    Calls Try.prog 66 #[.slice A l.length c, .func (.func 67) #[] #[.pointer (some ⟨B, 0, none⟩)]] w fun e w' => e = .returned (.int .i64 (idxOf l id)) ∧ Below w.heap.size w w' := by
  have hbig : l.length ≤ 9223372036854775807 := hr.2.1
  have HR := Aside0.mk hr
  clear hr
  go_enter Try.func66, Try.ntmps66
  go_wp2
  go_loopg [5, 8] l.length (fun gg _ s8 wr => ∃ kk : Nat, kk ≤ l.length ∧ l.length - kk ≤ gg ∧ s8 = .int .i64 kk ∧ Aside0 (Below w.heap.size w wr) ∧ Aside0 (∀ j : Nat, j < kk → (rd_T36 l j).f0 ≠ id))
  case atStart => exact ⟨0, Nat.zero_le _, by omega, rfl, ⟨Below.refl _ w⟩, ⟨fun j hj => absurd hj (Nat.not_lt_zero _)⟩⟩
  case round =>
    obtain ⟨kk, hkk, hg, rfl, BW, AN⟩ := hrel
    by_cases hlt : kk < l.length
    · have hltz : (kk : Int) < (l.length : Int) := by omega
      have HB' := BW.out
      obtain ⟨ad, e, h0, h1, h2, h3⟩ := at_T36 (Kd.C_below HR.out BW.out) (kk : Int) (by omega) (by omega)
      simp only [Int.toNat_natCast] at h0 h1 h2 h3
      cases e
      have hcall := virtual_at_c wr (rd_T36 l kk) id B (Nat.lt_of_lt_of_le hB BW.out.size) ((BW.out.cell (p := ⟨B, 0, none⟩) hB).trans hc)
      clear HB'
      by_cases hq : (rd_T36 l kk).f0 = id
      · have hqb : ((rd_T36 l kk).f0 == id) = true := by simpa using hq
        rw [hqb] at hcall
        have HQ := Aside0.mk hq
        clear hq hqb
        go_wp2_with (go_at_call 67; refine hcall.mono ?_; rintro e w' ⟨rfl, hb'⟩)
        go_ret
        exact ⟨by rw [idxOf_hit id l kk hlt AN.out HQ.out]; rfl, BW.out.trans (hb'.mono BW.out.size)⟩
      · have hqb : ((rd_T36 l kk).f0 == id) = false := by simpa using hq
        rw [hqb] at hcall
        have HQ := Aside0.mk hq
        clear hq hqb
        go_wp2_with (go_at_call 67; refine hcall.mono ?_; rintro e w' ⟨rfl, hb'⟩)
        go_roundg (l.length - (kk + 1))
        case measure => omega
        case rel =>
          refine ⟨kk + 1, by omega, by omega, by go_num, ⟨BW.out.trans (hb'.mono BW.out.size)⟩, ⟨fun j hj => ?_⟩⟩
          by_cases e : j = kk
          · subst e; exact HQ.out
          · exact AN.out j (by omega)
    · have hltz : ¬ (kk : Int) < (l.length : Int) := by omega
      have : kk = l.length := by omega
      subst this
      go_wp2
      go_ret
      exact ⟨by rw [idxOf_miss id l AN.out]; rfl, BW.out⟩

set_option maxHeartbeats 2000000 in
theorem virtual_at.calls (a0_0 : Int) (A0_1 : Option Addr) (c0_1 : Nat) (l0_1 : List (S36)) (a1 : Int) (r : Int) (w : World) (hr0_1 : Kd.C k36 w A0_1 l0_1.length l0_1) (hc0_1 : l0_1.length ≤ c0_1) (h : virtual_at.f a0_0 l0_1 a1 = some r) :
    Calls Try.prog 54 #[.agg #[.int .i64 a0_0, .slice A0_1 l0_1.length c0_1], .int .i64 a1] w fun e w' => e = .returned (.int .i64 r) ∧ Below w.heap.size w w' := by
  obtain rfl : idxOf l0_1 a1 = r := Option.some.inj h
  clear h
  have HB : Below w.heap.size w ((w.alloc (.cells #[.int .i64 a0_0, .slice A0_1 l0_1.length c0_1] 29)).alloc (.cells #[.int .i64 a1] 3)) := ((Below.refl _ _).alloc (Nat.le_refl _) _).alloc (by simp) _
  have hcall := virtual_at_ix A0_1 c0_1 l0_1 a1 (w.heap.size + 1) _ (Kd.C_below hr0_1 HB) hc0_1 (by simp) (by go_simp)
  have HR := Aside0.mk hr0_1
  have HBA := Aside0.mk HB
  clear hr0_1 HB
  go_enter Try.func54, Try.ntmps54
  go_wp2_with (go_at_call 66; refine hcall.mono ?_; rintro e w' ⟨rfl, hb'⟩)
  go_ret
  exact ⟨rfl, HBA.out.trans (hb'.mono (by simp; omega))⟩

end Go.Proofs.Ytancnonigponaaa.PV
