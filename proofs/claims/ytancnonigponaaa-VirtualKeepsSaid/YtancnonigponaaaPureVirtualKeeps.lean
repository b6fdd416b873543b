/- VirtualKeeps, in plain numbers and lists: whatever the dice say, every function leads to a queue that Check accepts, and the clock never falls. Conditions: what the printed statement says of the list of numbers. -/
import Derived.Test.YtancnonigponaaaSane
import Derived.Test.YtancnonigponaaaPVx26
set_option linter.unusedVariables false
namespace Go.Proofs.Ytancnonigponaaa.Pure
open Go.RowKit Go.Proofs.Ytancnonigponaaa.PV Go.Proofs.YtancnonigponaaaW.PrintWords Go.Proofs.YtancnonigponaaaW.PrintLast
theorem weight_ev (L : List Int) (a : Int) (hL : L.length ≤ 600) (h0 : 0 ≤ a) (h1 : a ≤ L.length) :
    ∃ x a', Ev (fun k => groupcontrolmade_Dice_Weight.f k L a) (x, a') ∧ a ≤ a' ∧ a' ≤ L.length := by
  obtain ⟨x, b, hx, x0, x1, _, xb, xl⟩ := next_ev L a 1000 hL h0 h1 (by omega)
  obtain ⟨y, c, hy, y0, y1, _, yb, yl⟩ := next_ev L b 8 hL (by omega) xl (by omega)
  unfold groupcontrolmade_Dice_Weight.f
  refine ⟨rd [1, 100, 300, 10000, 50, 200, 7, wrap64 (1 + x)] y, c, Ev.bind hx (Ev.congr (fun k => Option.bind_some _ _) (Ev.bind hy (Ev.congr (fun k => ?_) (Ev.now _)))), by omega, by omega⟩
  have hy1 := y1 (by omega)
  rw [if_pos y0, if_pos (by simp only [List.length_cons, List.length_nil]; omega)]
theorem keeps_loop (L : List Int) (hL : L.length ≤ 600) : ∀ (d : Nat) (i a q : Int) (l : List S36), 30 - i = d → 0 ≤ i → i ≤ 30 → 0 ≤ a → a ≤ L.length → Ok q l → Ev (fun k => groupcontrollaw15_VirtualKeeps.l0 k i L a q l) true := by
  intro d
  induction d with
  | zero =>
    intro i a q l hd hi0 hi1 ha0 ha1 h
    refine Ev.step (f := fun k => groupcontrollaw15_VirtualKeeps.j1 k i false L a q l) (fun k => by simp only [groupcontrollaw15_VirtualKeeps.l0]; rw [if_neg (by omega)]) ?_
    refine Ev.step (f := fun k => (groupcontrollaw15_sane.f k).bind fun t => some t) (fun k => by simp only [groupcontrollaw15_VirtualKeeps.j1]; rw [if_neg (by decide)]) ?_
    exact Ev.bind sane_ev (Ev.now _)
  | succ d ih =>
    intro i a q l hd hi0 hi1 ha0 ha1 h
    have hi : i < 30 := by omega
    refine Ev.step (f := fun k => groupcontrollaw15_VirtualKeeps.j1 k i (decide (a < (L.length : Int))) L a q l) (fun k => by simp only [groupcontrollaw15_VirtualKeeps.l0]; rw [if_pos hi]; rfl) ?_
    by_cases hl : a < (L.length : Int)
    · rw [decide_eq_true hl]
      obtain ⟨x, b, hx, x0, x1, _, xb, xl⟩ := next_ev L a 5 hL ha0 ha1 (by omega)
      obtain ⟨y, c, hy, y0, y1, _, yb, yl⟩ := next_ev L b 8 hL (by omega) xl (by omega)
      have hw : wrap64 (i + 1) = i + 1 := by unfold wrap64; omega
      have more : ∀ (c' q' : Int) (l' : List S36), 0 ≤ c' → c' ≤ L.length → Ok q' l' → Ev (fun k => groupcontrollaw15_VirtualKeeps.l0 k (wrap64 (i + 1)) L c' q' l') true := fun c' q' l' h1 h2 h3 => by
        rw [hw]; exact ih (i + 1) c' q' l' (by omega) (by omega) (by omega) h1 h2 h3
      have j4 : ∀ (c' e q' : Int) (l' : List S36), 0 ≤ c' → c' ≤ L.length → Fine q (q', l', e) → Ev (fun k => groupcontrollaw15_VirtualKeeps.j4 k i e L c' q l q' l') true := by
        intro c' e q' l' h1 h2 hf
        by_cases he : e = 0
        · obtain ⟨hok, hle⟩ := hf he
          refine Ev.step (f := fun k => groupcontrollaw15_VirtualKeeps.l0 k (wrap64 (i + 1)) L c' q' l') (fun k => ?_) (more c' q' l' h1 h2 hok)
          simp only [groupcontrollaw15_VirtualKeeps.j4]
          rw [if_pos he, if_neg (by omega)]
          unfold groupcontrolref15_Check.f
          rw [Option.bind_some, if_pos (ok_ck hok)]
        · refine Ev.step (f := fun k => groupcontrollaw15_VirtualKeeps.l0 k (wrap64 (i + 1)) L c' q l) (fun k => ?_) (more c' q l h1 h2 h)
          simp only [groupcontrollaw15_VirtualKeeps.j4]
          rw [if_neg he]
      have fin : ∀ (r : Int × List S36 × Int) (c' : Int), 0 ≤ c' → c' ≤ L.length → Fine q r → Ev (fun k => groupcontrollaw15_VirtualKeeps.j4 k i r.2.2 L c' q l r.1 r.2.1) true := fun r c' h1 h2 hf => j4 c' r.2.2 r.1 r.2.1 h1 h2 hf
      obtain ⟨id, hid⟩ : ∃ id, wrap64 (x - 2) = id := ⟨_, rfl⟩
      refine Ev.step (f := fun k => (groupcontrolmade_Dice_Next.f k L a 5).bind fun t => (groupcontrolmade_Dice_Next.f k L t.2 8).bind fun s => groupcontrollaw15_VirtualKeeps.j2 k i 0 (wrap64 (t.1 - 2)) s.1 (decide (s.1 = 0 ∨ s.1 = 1)) L s.2 q l q l) (fun k => ?_) ?_
      · simp only [groupcontrollaw15_VirtualKeeps.j1, if_true]
        congr 1; funext t; congr 1; funext s
        by_cases h0 : s.1 = 0
        · rw [if_pos h0, h0]; rfl
        · rw [if_neg h0]
          congr 1
          rw [Bool.eq_iff_iff]; simp [h0]
      refine Ev.bind hx (Ev.bind hy ?_)
      show Ev (fun k => groupcontrollaw15_VirtualKeeps.j2 k i 0 (wrap64 (x - 2)) y (decide (y = 0 ∨ y = 1)) L c q l q l) true
      rw [hid]
      by_cases hy1 : y = 0 ∨ y = 1
      · obtain ⟨n, c', hn, nb, nl⟩ := weight_ev L c hL (by omega) yl
        refine Ev.step (f := fun k => (groupcontrolmade_Dice_Weight.f k L c).bind fun t => groupcontrollaw15_VirtualKeeps.j4 k i (addV q l id t.1).2.2 L t.2 q l (addV q l id t.1).1 (addV q l id t.1).2.1) (fun k => ?_) (Ev.bind hn (fin (addV q l id n) c' (by omega) nl (add_fine id n h)))
        simp only [groupcontrollaw15_VirtualKeeps.j2, decide_eq_true hy1, if_true]
        rfl
      · have e1 : decide (y = 0 ∨ y = 1) = false := decide_eq_false hy1
        rw [e1]
        by_cases hy2 : y = 2
        · refine Ev.step (fun k => ?_) (fin (chV q l id (wakeF q l)) c (by omega) yl (wake_fine id h))
          simp only [groupcontrollaw15_VirtualKeeps.j2]
          rw [if_neg (by decide), if_pos hy2]; rfl
        · by_cases hy3 : y = 3
          · refine Ev.step (fun k => ?_) (fin (chV q l id (sleepF l)) c (by omega) yl (sleep_fine id h))
            simp only [groupcontrollaw15_VirtualKeeps.j2]
            rw [if_neg (by decide), if_neg hy2, if_pos hy3]; rfl
          · have j3s : Ev (fun k => groupcontrollaw15_VirtualKeeps.j3 k i 0 id y (decide (y = 4 ∨ y = 5)) L c q l q l) true := by
              by_cases hy4 : y = 4 ∨ y = 5
              · rw [decide_eq_true hy4]
                refine Ev.step (fun k => ?_) (fin (chV q l id (serveF l)) c (by omega) yl (serve_fine id h))
                simp only [groupcontrollaw15_VirtualKeeps.j3, if_true]; rfl
              · rw [decide_eq_false hy4]
                by_cases hy6 : y = 6
                · obtain ⟨n, c', hn, nb, nl⟩ := weight_ev L c hL (by omega) yl
                  obtain ⟨r, hr⟩ : ∃ r, r = (if ckV q l = true ∧ costV n = 0 then ((0, [], 3) : Int × List S36 × Int) else chV q l id (reweightF q n l)) := ⟨_, rfl⟩
                  have hfr : Fine q r := by
                    rw [hr]
                    by_cases h0 : costV n = 0
                    · rw [if_pos ⟨ok_ck h, h0⟩]; intro e; exact absurd e (by decide)
                    · rw [if_neg (fun e => h0 e.2)]; exact reweight_fine id n h h0
                  refine Ev.step (f := fun k => (groupcontrolmade_Dice_Weight.f k L c).bind fun t => ((virtual_Reweight.f q l id t.1).bind fun s => groupcontrollaw15_VirtualKeeps.j4 k i s.2.2 L t.2 q l s.1 s.2.1)) (fun k => ?_) (Ev.bind hn (Ev.congr (f := fun k => groupcontrollaw15_VirtualKeeps.j4 k i r.2.2 L c' q l r.1 r.2.1) (fun k => ?_) (fin r c' (by omega) nl hfr)))
                  · simp only [groupcontrollaw15_VirtualKeeps.j3]
                    rw [if_neg (by decide), if_pos hy6]
                  · unfold virtual_Reweight.f
                    rw [hr, Option.bind_some]
                · have hy7 : y = 7 := by have := y1 (by omega); omega
                  refine Ev.step (fun k => ?_) (fin (chV q l id (fun i => (0, l.eraseIdx i))) c (by omega) yl (drop_fine id h))
                  simp only [groupcontrollaw15_VirtualKeeps.j3]
                  rw [if_neg (by decide), if_neg hy6, if_pos hy7]; rfl
            refine Ev.step (fun k => ?_) j3s
            simp only [groupcontrollaw15_VirtualKeeps.j2]
            rw [if_neg (by decide), if_neg hy2, if_neg hy3]
            by_cases h4 : y = 4
            · rw [if_pos h4]
              congr 1
              rw [Bool.eq_iff_iff]; simp [h4]
            · rw [if_neg h4]
              congr 1
              rw [Bool.eq_iff_iff]; simp [h4]
    · rw [decide_eq_false hl]
      refine Ev.step (f := fun k => (groupcontrollaw15_sane.f k).bind fun t => some t) (fun k => by simp only [groupcontrollaw15_VirtualKeeps.j1]; rw [if_neg (by decide)]) ?_
      exact Ev.bind sane_ev (Ev.now _)
theorem ok_nil : Ok 0 [] := ⟨Int.le_refl _, by omega, by simp, by simp, by simp⟩
theorem VirtualKeeps : groupcontrollaw15_VirtualKeeps.Pure := by
  intro l0 _ _ _
  unfold groupcontrollaw15_VirtualKeeps.f groupcontrolmade_Light.f
  refine Ev.rounds (Ev.congr (fun k => Option.bind_some _ _) ?_)
  by_cases hl : (l0.length : Int) ≤ 600
  · refine Ev.congr (f := fun k => groupcontrollaw15_VirtualKeeps.l0 k 0 l0 0 0 []) (fun k => ?_) (keeps_loop l0 (by omega) 30 0 0 0 [] (by omega) (by omega) (by omega) (by omega) (by omega) ok_nil)
    rw [if_pos (by simpa using hl)]; rfl
  · refine Ev.congr (fun k => if_neg (by simpa using hl)) (Ev.bind sane_ev (Ev.now _))
end Go.Proofs.Ytancnonigponaaa.Pure
