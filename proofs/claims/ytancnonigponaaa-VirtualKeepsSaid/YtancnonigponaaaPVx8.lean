/- Contracts of functions of the program and of its references, over the translation, for values that can be read as data: each call comes to what a Lean function says. Written by the kit's printer and a program of this session's, with hand-made contracts spliced in. -/
import Derived.Test.YtancnonigponaaaPVx0
namespace Go.Proofs.Ytancnonigponaaa.PV
open Go.RowKit Go.Proofs.YtancnonigponaaaW.PrintWords Go.Proofs.YtancnonigponaaaW.PrintLast Go.Proofs.YtancnonigponaaaW.PrintMore
set_option linter.unusedVariables false
set_option linter.unusedSimpArgs false

/-! ### api_Item: function 60 (by hand) -/
def api_Item_60.f (l : List S36) : Option (List S36) := if l.length ≤ 4398046511104 then some l else none
theorem k36_KM {w W : World} {base : Nat} {ok : Nat → Prop} (x : S36) (cs : List Value) (h : k36.K w x cs) : k36.M W base ok x cs := by
  rw [k36_open h]; exact k36_mkM W base ok x
theorem R_empty36 (w : World) (ok : Nat → Prop) (hok : ok w.heap.size) : Kd.R k36 36 (w.alloc (.cells #[] 36)) w.heap.size ok (.slice (some ⟨w.heap.size, 0, none⟩) 0 0) [] := by
  refine ⟨fun k hk => ?_, [], ?_, Reps.none _ _⟩
  · simp [Value.ownBlock] at hk
    subst hk
    exact hok
  · exact World.ownsRow_lit (base := w.heap.size) (e := 36) (size := 4) w #[] 0 (Nat.le_refl _) (Nat.zero_le _) rfl
set_option maxHeartbeats 2000000 in
theorem api_Item_60.calls (A0 : Option Addr) (c0 : Nat) (l0 : List S36) (r : List S36) (w : World) (hr0 : Kd.C k36 w A0 l0.length l0) (hc0 : l0.length ≤ c0) (h : api_Item_60.f l0 = some r) :
    Calls Try.prog 60 #[.slice A0 l0.length c0] w fun e w' => ∃ v0_ : Value, e = .returned v0_ ∧ Kd.R k36 36 w' w.heap.size (fun _ => True) v0_ r ∧ Below w.heap.size w w' := by
  unfold api_Item_60.f at h
  split at h
  case isFalse => cases h
  case isTrue hsz =>
  obtain rfl := Option.some.inj h
  clear h
  cases A0 with
  | none =>
    have h0 : l0 = [] := by
      cases l0 with
      | nil => rfl
      | cons a l =>
        obtain ⟨ad, e, _⟩ := hr0.2.2 (by simp)
        cases e
    subst h0
    have hnil := fun (w : World) => run_eql_slice_nil (P := Try.prog) w 27 36 none 0 c0 Try.underlying27
    go_enter Try.func60, Try.ntmps60
    go_wp2
    go_ret
    exact ⟨_, rfl, Kd.R_nil _ _ _ _ _, Below.refl _ _⟩
  | some ad =>
    have HR := Aside0.mk hr0
    have HN := Aside0.mk (R_empty36 w (fun _ => True) trivial)
    have HB := Aside0.mk ((Below.refl w.heap.size w).alloc (Nat.le_refl _) (.cells #[] 36))
    clear hr0
    have hnil := fun (w : World) => run_eql_slice_nil (P := Try.prog) w 27 36 (some ad) l0.length c0 Try.underlying27
    go_enter Try.func60, Try.ntmps60
    go_wp2_with ((with_reducible refine gate_builtin (b := .append) (xs := #[.tmp 5, .tmp 6]) rfl ?_); at_builtin; refine Kd.R_append_rows k36 (Rr := k36.K w) (w0 := w) w.heap.size rfl (.tmp 5) (.tmp 6) 27 36 _ 32 rfl Try.underlying27 info36 rfl (by decide) (by omega) (.slice (some ⟨w.heap.size, 0, none⟩) 0 0) [] l0 (some ad) l0.length c0 (fun _ => True) (fun k => w.heap.size < k) rfl rfl HN.out ?aR (fun x cs hx => k36_KM x cs hx) ?aO (fun _ _ => trivial) HB.out (by simp) (by simp; omega) ?_; (case aR => exact Kd.C_below HR.out HB.out); (case aO => exact fun k hk => ⟨trivial, by simp only [Value.ownBlock]; intro e; have := Option.some.inj e; omega⟩); intro v1 w1 ho hb hg hv)
    go_ret
    exact ⟨_, rfl, by simpa using ho, hb⟩

end Go.Proofs.Ytancnonigponaaa.PV
