/- Contracts of functions of the program and of its references, over the translation, for values that can be read as data: each call comes to what a Lean function says. Written by the kit's printer and a program of this session's, with hand-made contracts spliced in. -/
import Derived.Test.YtancnonigponaaaPVx0
import Derived.Test.YtancnonigponaaaPVx9
namespace Go.Proofs.Ytancnonigponaaa.PV
open Go.RowKit Go.Proofs.YtancnonigponaaaW.PrintWords Go.Proofs.YtancnonigponaaaW.PrintLast Go.Proofs.YtancnonigponaaaW.PrintMore
set_option linter.unusedVariables false
set_option linter.unusedSimpArgs false

/-! ### virtual_Serve: function 18 (by hand) -/
attribute [local go_sem] max2_int min2_int max_two min_two
set_option linter.unusedVariables false
def virtual_Serve.f (q : Int) (l : List S36) (id : Int) : Option (Int × List S36 × Int) := some (chV q l id (serveF l))
theorem cf_47 : ∀ (args : Array Value) (W : World), (callFunc 47 args).run Try.prog W = .ok (.enter 47 args) W := by intro args W; unfold callFunc; simp [Try.func47]; rfl
set_option maxHeartbeats 4000000 in
theorem virtual_Serve.calls (a0_0 : Int) (A0_1 : Option Addr) (c0_1 : Nat) (l0_1 : List (S36)) (a1 : Int) (r1 : Int) (r2 : List (S36)) (r3 : Int) (w : World) (hr0_1 : Kd.C k36 w A0_1 l0_1.length l0_1) (hc0_1 : l0_1.length ≤ c0_1) (h : virtual_Serve.f a0_0 l0_1 a1 = some (r1, r2, r3)) :
    Calls Try.prog 18 #[.agg #[.int .i64 a0_0, .slice A0_1 l0_1.length c0_1], .int .i64 a1] w fun e w' => ∃ v1_ : Value, e = .returned (.tuple #[.agg #[.int .i64 r1, v1_], .int .i64 r3]) ∧ Kd.R k36 36 w' w.heap.size (fun _ => True) v1_ r2 ∧ Below w.heap.size w w' := by
  have HR := Aside0.mk hr0_1
  have HC := Aside0.mk hc0_1
  have HH := Aside0.mk (Option.some.inj h)
  clear hr0_1 hc0_1 h
  have HB : Aside0 (Below w.heap.size w ((w.alloc (.cells #[.int .i64 a0_0, .slice A0_1 l0_1.length c0_1] 29)).alloc (.cells #[.int .i64 0, .slice none 0 0] 29))) := ⟨below_alloc (below_alloc (Below.refl _ _) _) _⟩
  have hcf := cf_47
  go_enter Try.func18, Try.ntmps18
  go_wp2_with (go_at_call 44; refine (virtual_change_all a0_0 A0_1 c0_1 l0_1 a1 47 #[] _ (Kd.C_below HR.out HB.out) HC.out _ (fun i _ hi hck w0 _ => serve_do w0 a0_0 l0_1 i hi (ckV_item hck i hi)) (fun i => by unfold serveF; split <;> (try split) <;> simp) hcf r1 r2 r3 HH.out).mono ?_; rintro e w1 ⟨v, rfl, r4, b4⟩; obtain ⟨A4, c4, rfl⟩ := Kd.R_slice r4; have R4 := Aside0.mk r4; obtain ⟨k1, k2, k3, k4⟩ := two_blocks w _ _ _ _ b4; have K2 := Aside0.mk k2; have K4 := Aside0.mk k4; have z0 := blk_cell k2 0; have z1 := blk_cell k2 1; have z2 := blk_frozen k2 0; have z3 := blk_frozen k2 1; clear r4 b4 k1 k2 k4)
  obtain ⟨c1, c2, c3⟩ := change_res w w1 (w.heap.size + 1) (Nat.le_succ _) r1 (.slice A4 r2.length c4) (w.heap.size + 2) (Nat.lt_succ_self _) r2 (Nat.le_trans (Nat.le_succ _) (Nat.le_succ _)) K2.out (by have := R4.out; simp only [World.size_alloc] at this; exact this) K4.out
  refine bodyPost_ret (results_ct rfl _ _ (w.heap.size + 1) 29 #[.int .i64 r1, .slice A4 r2.length c4] (0, 0) _ rfl c1 Try.underlying29 rfl (by kernel_rfl)) rfl ?_
  exact ⟨_, rfl, c2, c3⟩


end Go.Proofs.Ytancnonigponaaa.PV
