/- Contracts of functions of the program and of its references, over the translation, for values that can be read as data: each call comes to what a Lean function says. Written by the kit's printer and a program of this session's, with hand-made contracts spliced in. -/
import Derived.Test.YtancnonigponaaaPVx0
import Derived.Test.YtancnonigponaaaPVx4
import Derived.Test.YtancnonigponaaaPVx9
namespace Go.Proofs.Ytancnonigponaaa.PV
open Go.RowKit Go.Proofs.YtancnonigponaaaW.PrintWords Go.Proofs.YtancnonigponaaaW.PrintLast Go.Proofs.YtancnonigponaaaW.PrintMore
set_option linter.unusedVariables false
set_option linter.unusedSimpArgs false

/-! ### virtual_Reweight: function 25 (by hand) -/
attribute [local go_sem] max2_int min2_int max_two min_two
set_option linter.unusedVariables false
theorem cost_same' (x : Int) (w : World) : Calls Try.prog 28 #[.int .i64 x] w fun e w' => e = .returned (.int .i64 (costV x)) ∧ w = w' := (cost_same x w).mono fun _ _ ⟨he, hd⟩ => ⟨he, hd.symm⟩
theorem three_blocks (w : World) (a b c : Array Value) (t1 t2 t3 : TypeId) {w' : World} (h : Below (((w.alloc (.cells a t1)).alloc (.cells b t2)).alloc (.cells c t3)).heap.size (((w.alloc (.cells a t1)).alloc (.cells b t2)).alloc (.cells c t3)) w') :
    w'.heap[w.heap.size]? = some (.cells a t1 (0, 0)) ∧ w'.heap[w.heap.size + 1]? = some (.cells b t2 (0, 0)) ∧ w'.heap[w.heap.size + 2]? = some (.cells c t3 (0, 0)) ∧ Below w.heap.size w w' := by
  have h1 := blk_alloc (blk_alloc (blk_new w (.cells a t1)) (.cells b t2)) (.cells c t3)
  have h2 := blk_alloc (blk_new (w.alloc (.cells a t1)) (.cells b t2)) (.cells c t3)
  have h3 := blk_new ((w.alloc (.cells a t1)).alloc (.cells b t2)) (.cells c t3)
  simp only [World.size_alloc] at h2 h3
  exact ⟨blk_below h1 h, blk_below h2 h, blk_below h3 h, (below_alloc (below_alloc (below_alloc (Below.refl _ w) _) _) _).trans (h.mono (by simp only [World.size_alloc]; omega))⟩
def virtual_Reweight.f (q : Int) (l : List S36) (id n : Int) : Option (Int × List S36 × Int) := some (if ckV q l = true ∧ costV n = 0 then (0, [], 3) else chV q l id (reweightF q n l))
theorem cf_53 : ∀ (args : Array Value) (W : World), (callFunc 53 args).run Try.prog W = .ok (.enter 53 args) W := by intro args W; unfold callFunc; simp [Try.func53]; rfl
set_option maxHeartbeats 8000000 in
theorem virtual_Reweight.calls (a0_0 : Int) (A0_1 : Option Addr) (c0_1 : Nat) (l0_1 : List (S36)) (a1 : Int) (a2 : Int) (r1 : Int) (r2 : List (S36)) (r3 : Int) (w : World) (hr0_1 : Kd.C k36 w A0_1 l0_1.length l0_1) (hc0_1 : l0_1.length ≤ c0_1) (h : virtual_Reweight.f a0_0 l0_1 a1 a2 = some (r1, r2, r3)) :
    Calls Try.prog 25 #[.agg #[.int .i64 a0_0, .slice A0_1 l0_1.length c0_1], .int .i64 a1, .int .i64 a2] w fun e w' => ∃ v1_ : Value, e = .returned (.tuple #[.agg #[.int .i64 r1, v1_], .int .i64 r3]) ∧ Kd.R k36 36 w' w.heap.size (fun _ => True) v1_ r2 ∧ Below w.heap.size w w' := by
  have HR := Aside0.mk hr0_1
  have HC := Aside0.mk hc0_1
  have hh := Option.some.inj h
  clear hr0_1 hc0_1 h
  have HB : Aside0 (Below w.heap.size w (((w.alloc (.cells #[.int .i64 a0_0, .slice A0_1 l0_1.length c0_1] 29)).alloc (.cells #[.int .i64 a2] 3)).alloc (.cells #[.int .i64 0, .slice none 0 0] 29))) := ⟨below_alloc (below_alloc (below_alloc (Below.refl _ _) _) _) _⟩
  cases hck : ckV a0_0 l0_1 with
  | false =>
    have HK := Aside0.mk hck
    rw [if_neg (by rw [hck]; simp)] at hh
    have HH := Aside0.mk hh
    clear hh hck
    have hcf := cf_53
    go_enter Try.func25, Try.ntmps25
    go_wp2_with (first | (go_at_call 34; refine (virtual_Check.calls a0_0 A0_1 c0_1 l0_1 false _ (Kd.C_below HR.out HB.out) HC.out (by unfold virtual_Check.f; rw [HK.out])).mono ?_; rintro e w1 ⟨rfl, b1⟩; obtain ⟨k1, k2, k3, k4⟩ := three_blocks w _ _ _ _ _ _ b1; have K1 := Aside0.mk k1; have K2 := Aside0.mk k2; have K3 := Aside0.mk k3; have K4 := Aside0.mk k4; have d0 := blk_cell k1 0; have d1 := blk_cell k1 1; clear b1 k1 k2 k3 k4) | (go_at_call 44; refine (virtual_change_all a0_0 A0_1 c0_1 l0_1 a1 53 #[.pointer (some ⟨w.heap.size + 1, 0, none⟩)] _ (Kd.C_below HR.out K4.out) HC.out (reweightF a0_0 a2 l0_1) (fun i _ hi hck w0 b0 => absurd hck (by rw [HK.out]; simp)) (fun i => by unfold reweightF; simp) hcf r1 r2 r3 HH.out).mono ?_; rintro e w2 ⟨v, rfl, r4, b4⟩; obtain ⟨A4, c4, rfl⟩ := Kd.R_slice r4; have R4 := Aside0.mk r4; have L3 := Aside0.mk (blk_below K3.out b4); have L4 := Aside0.mk (K4.out.trans (b4.mono K4.out.size)); have z0 := blk_cell L3.out 0; have z1 := blk_cell L3.out 1; have z2 := blk_frozen L3.out 0; have z3 := blk_frozen L3.out 1; clear r4 b4 d0 d1))
    obtain ⟨c1, c2, c3⟩ := change_res w w2 (w.heap.size + 1 + 1) (by omega) r1 (.slice A4 r2.length c4) w1.heap.size (blk_lt K3.out) r2 K4.out.size L3.out R4.out L4.out
    refine bodyPost_ret (results_ct rfl _ _ (w.heap.size + 1 + 1) 29 #[.int .i64 r1, .slice A4 r2.length c4] (0, 0) _ rfl c1 Try.underlying29 rfl (by kernel_rfl)) rfl ?_
    exact ⟨_, rfl, c2, c3⟩
  | true =>
    have HK := Aside0.mk hck
    by_cases hn : costV a2 = 0
    · rw [if_pos ⟨hck, hn⟩] at hh
      simp only [Prod.mk.injEq] at hh
      obtain ⟨rfl, rfl, rfl⟩ := hh
      have hnb : (costV a2 == 0) = true := by simpa using hn
      clear hck hn
      go_enter Try.func25, Try.ntmps25
      go_wp2_with (first | (go_at_call 34; refine (virtual_Check.calls a0_0 A0_1 c0_1 l0_1 true _ (Kd.C_below HR.out HB.out) HC.out (by unfold virtual_Check.f; rw [HK.out])).mono ?_; rintro e w1 ⟨rfl, b1⟩; obtain ⟨k1, k2, k3, k4⟩ := three_blocks w _ _ _ _ _ _ b1; have K3 := Aside0.mk k3; have K4 := Aside0.mk k4; have d0 := blk_cell k2 0; have z0 := blk_cell k3 0; have z1 := blk_cell k3 1; have z2 := blk_frozen k3 0; have z3 := blk_frozen k3 1; clear b1 k1 k2 k3 k4) | (go_at_call 28; refine (cost_same' _ _).mono ?_; rintro e w' ⟨rfl, rfl⟩))
      obtain ⟨c1, c2, c3⟩ := change_res w w1 (w.heap.size + 1 + 1) (by omega) 0 (.slice none 0 0) (w.heap.size + 3) (by omega) [] (by omega) K3.out (Kd.R_nil k36 36 w1 (w.heap.size + 3) (fun _ => True)) K4.out
      refine bodyPost_ret (results_ct rfl _ _ (w.heap.size + 1 + 1) 29 #[.int .i64 0, .slice none 0 0] (0, 0) _ rfl c1 Try.underlying29 rfl (by kernel_rfl)) rfl ?_
      exact ⟨_, rfl, c2, c3⟩
    · rw [if_neg (by intro e; exact hn e.2)] at hh
      have HH := Aside0.mk hh
      have hnb : (costV a2 == 0) = false := by simpa using hn
      clear hh hck hn
      have hcf := cf_53
      go_enter Try.func25, Try.ntmps25
      go_wp2_with (first | (go_at_call 34; refine (virtual_Check.calls a0_0 A0_1 c0_1 l0_1 true _ (Kd.C_below HR.out HB.out) HC.out (by unfold virtual_Check.f; rw [HK.out])).mono ?_; rintro e w1 ⟨rfl, b1⟩; obtain ⟨k1, k2, k3, k4⟩ := three_blocks w _ _ _ _ _ _ b1; have K1 := Aside0.mk k1; have K2 := Aside0.mk k2; have K3 := Aside0.mk k3; have K4 := Aside0.mk k4; have d0 := blk_cell k1 0; have d1 := blk_cell k1 1; have d2 := blk_cell k2 0; clear b1 k1 k2 k3 k4) | (go_at_call 28; refine (cost_same' _ _).mono ?_; rintro e w' ⟨rfl, rfl⟩) | (go_at_call 44; refine (virtual_change_all a0_0 A0_1 c0_1 l0_1 a1 53 #[.pointer (some ⟨w.heap.size + 1, 0, none⟩)] _ (Kd.C_below HR.out K4.out) HC.out (reweightF a0_0 a2 l0_1) (fun i _ hi hck w0 b0 => reweight_do w0 a0_0 a2 (w.heap.size + 1) (Nat.lt_of_lt_of_le (blk_lt K2.out) b0.size) ((blk_cell (blk_below K2.out b0) 0).trans rfl) l0_1 i hi ⟨(ckV_badAt hck).1, (ckV_badAt hck).2.1⟩ (ckV_at hck i hi).2.1 ⟨(ckV_at hck i hi).2.2.1, (ckV_at hck i hi).2.2.2.1, (ckV_at hck i hi).2.2.2.2.1⟩) (fun i => by unfold reweightF; simp) hcf r1 r2 r3 HH.out).mono ?_; rintro e w2 ⟨v, rfl, r4, b4⟩; obtain ⟨A4, c4, rfl⟩ := Kd.R_slice r4; have R4 := Aside0.mk r4; have L3 := Aside0.mk (blk_below K3.out b4); have L4 := Aside0.mk (K4.out.trans (b4.mono K4.out.size)); have z0 := blk_cell L3.out 0; have z1 := blk_cell L3.out 1; have z2 := blk_frozen L3.out 0; have z3 := blk_frozen L3.out 1; clear r4 b4 d0 d1 d2))
      obtain ⟨c1, c2, c3⟩ := change_res w w2 (w.heap.size + 1 + 1) (by omega) r1 (.slice A4 r2.length c4) w1.heap.size (blk_lt K3.out) r2 K4.out.size L3.out R4.out L4.out
      refine bodyPost_ret (results_ct rfl _ _ (w.heap.size + 1 + 1) 29 #[.int .i64 r1, .slice A4 r2.length c4] (0, 0) _ rfl c1 Try.underlying29 rfl (by kernel_rfl)) rfl ?_
      exact ⟨_, rfl, c2, c3⟩

end Go.Proofs.Ytancnonigponaaa.PV
