/- Contracts of functions of the program and of its references, over the translation, for values that can be read as data: each call comes to what a Lean function says. Written by the kit's printer and a program of this session's, with hand-made contracts spliced in. -/
import Derived.Test.YtancnonigponaaaPVx0
import Derived.Test.YtancnonigponaaaPVx4
import Derived.Test.YtancnonigponaaaPVx5
import Derived.Test.YtancnonigponaaaPVx7
import Derived.Test.YtancnonigponaaaPVx8
import Derived.Test.YtancnonigponaaaPVx9
import Derived.Test.YtancnonigponaaaPVx20
namespace Go.Proofs.Ytancnonigponaaa.PV
open Go.RowKit Go.Proofs.YtancnonigponaaaW.PrintWords Go.Proofs.YtancnonigponaaaW.PrintLast Go.Proofs.YtancnonigponaaaW.PrintMore
set_option linter.unusedVariables false
set_option linter.unusedSimpArgs false

/-! ### virtual_Add: function 31 (by hand) -/
attribute [local go_sem] max2_int min2_int max_two min_two
set_option linter.unusedVariables false

/-! Rows of plain elements as flat lists of cells. -/
section
variable {α : Type} (enc : α → List Value)
def flat : List α → List Value
  | [] => []
  | x :: l => enc x ++ flat l
theorem flat_len {sz : Nat} (h : ∀ x, (enc x).length = sz) : ∀ l : List α, (flat enc l).length = l.length * sz
  | [] => by simp [flat]
  | x :: l => by rw [flat, List.length_append, h, flat_len h l, List.length_cons, Nat.succ_mul]; omega
theorem flat_append : ∀ (l m : List α), flat enc (l ++ m) = flat enc l ++ flat enc m
  | [], _ => rfl
  | x :: l, m => by rw [List.cons_append, flat, flat, flat_append l m, List.append_assoc]
theorem flat_take {sz : Nat} (h : ∀ x, (enc x).length = sz) (l : List α) (i : Nat) : (flat enc l).take (i * sz) = flat enc (l.take i) := by
  induction l generalizing i with
  | nil => simp [flat]
  | cons x l ih =>
    cases i with
    | zero => simp [flat]
    | succ i => rw [List.take_succ_cons, flat, flat, Nat.succ_mul, List.take_append, h, List.take_of_length_le (by rw [h]; omega), show i * sz + sz - sz = i * sz by omega, ih]
theorem flat_drop {sz : Nat} (h : ∀ x, (enc x).length = sz) (l : List α) (i : Nat) : (flat enc l).drop (i * sz) = flat enc (l.drop i) := by
  induction l generalizing i with
  | nil => simp [flat]
  | cons x l ih =>
    cases i with
    | zero => simp [flat]
    | succ i => rw [List.drop_succ_cons, flat, Nat.succ_mul, List.drop_append, h, List.drop_eq_nil_of_le (by rw [h]; omega), List.nil_append, show i * sz + sz - sz = i * sz by omega, ih]
theorem flat_one {sz : Nat} (h : ∀ x, (enc x).length = sz) (l : List α) (j : Nat) (x : α) (hj : l[j]? = some x) : ((flat enc l).drop (j * sz)).take sz = enc x := by
  obtain ⟨hl, e⟩ := List.getElem?_eq_some_iff.1 hj
  rw [flat_drop enc h, List.drop_eq_getElem_cons hl, e, flat, List.take_append_of_le_length (by rw [h]; omega), List.take_of_length_le (by rw [h]; omega)]
theorem flat_mem (l : List α) (v : Value) (hv : v ∈ flat enc l) : ∃ x ∈ l, v ∈ enc x := by
  induction l with
  | nil => simp [flat] at hv
  | cons x l ih =>
    rw [flat, List.mem_append] at hv
    rcases hv with hv | hv
    · exact ⟨x, by simp, hv⟩
    · obtain ⟨y, hy, hv⟩ := ih hv; exact ⟨y, by simp [hy], hv⟩
theorem reps_flat {sz : Nat} (h : ∀ x, (enc x).length = sz) (l : List α) : Reps (fun x cs => cs = enc x) sz l (flat enc l) := ⟨flat_len enc h l, fun j p hj => flat_one enc h l j p hj⟩
theorem flat_of_reps {sz : Nat} (h : ∀ x, (enc x).length = sz) : ∀ (l : List α) (cs : List Value), Reps (fun x cs => cs = enc x) sz l cs → cs = flat enc l
  | [], cs, hr => by
    have := hr.1
    simp at this
    rw [this]; rfl
  | x :: l, cs, hr => by
    have h0 := hr.2 0 x rfl
    simp only [Nat.zero_mul, List.drop_zero] at h0
    have ht : Reps (fun x cs => cs = enc x) sz l (cs.drop sz) := by
      refine ⟨by rw [List.length_drop, hr.1, List.length_cons, Nat.succ_mul]; omega, fun j p hj => ?_⟩
      have := hr.2 (j + 1) p (by rw [List.getElem?_cons_succ]; exact hj)
      rw [List.drop_drop, Nat.add_comm, ← Nat.succ_mul]
      exact this
    have ih := flat_of_reps h l _ ht
    rw [flat, ← ih, ← h0, List.take_append_drop]
end
section
variable {α : Type} {d : Kd α} {enc : α → List Value}
/-- An owned row of plain elements: its block. -/
theorem plain_open (hM : ∀ w base ok x cs, d.M w base ok x cs ↔ cs = enc x) (hlen : ∀ x, (enc x).length = d.sz) {e base : Nat} {W : World} {ok : Nat → Prop} {v : Value} {l : List α} (h : d.R e W base ok v l) :
    (v = .slice none 0 0 ∧ l = []) ∨ ∃ g cap cur, v = .slice (some ⟨g, 0, none⟩) l.length cap ∧ base ≤ g ∧ ok g ∧ W.heap[g]? = some (.cells cur e (0, 0)) ∧ l.length ≤ cap ∧ cap ≤ maxLen ∧ cur.size = cap * d.sz ∧ cur.toList.take (l.length * d.sz) = flat enc l := by
  obtain ⟨hok, inner, hown, hr⟩ := h
  have hf : inner = flat enc l := flat_of_reps enc hlen l inner ⟨hr.1, fun j p hj => (hM _ _ _ _ _).1 (hr.2 j p hj)⟩
  rcases hown with ⟨h1, h2⟩
  rcases h2 with ⟨rfl, h3⟩ | ⟨g, cap, cur, rfl, hb, hh, hnc, hcm, hcs, htake⟩
  · refine .inl ⟨rfl, ?_⟩
    first
      | exact List.length_eq_zero_iff.1 h3
      | exact List.length_eq_zero_iff.1 h3.1
      | exact List.length_eq_zero_iff.1 h3.2
  · exact .inr ⟨g, cap, cur, rfl, hb, hok g (by simp [Value.ownBlock]), hh, hnc, hcm, hcs, by rw [htake, hf]⟩
theorem plain_shut (hM : ∀ w base ok x cs, d.M w base ok x cs ↔ cs = enc x) (hlen : ∀ x, (enc x).length = d.sz) {e base : Nat} {W : World} {ok : Nat → Prop} {g cap : Nat} {cur : Array Value} {l : List α} (hb : base ≤ g) (hok : ok g) (hh : W.heap[g]? = some (.cells cur e (0, 0))) (hnc : l.length ≤ cap) (hcm : cap ≤ maxLen) (hcs : cur.size = cap * d.sz) (ht : cur.toList.take (l.length * d.sz) = flat enc l) :
    d.R e W base ok (.slice (some ⟨g, 0, none⟩) l.length cap) l :=
  ⟨fun k hk => by have : g = k := by simpa [Value.ownBlock] using hk
                  rw [← this]; exact hok, flat enc l, ⟨flat_len enc hlen l, .inr ⟨g, cap, cur, rfl, hb, hh, hnc, hcm, hcs, ht⟩⟩, (flat_len enc hlen l), fun j p hj => (hM _ _ _ _ _).2 (flat_one enc hlen l j p hj)⟩
end
/-- 'copy' between rows of whole elements: all is read before anything is written. -/
theorem copy_rows_run {P : Program} (w : World) (dT sT ty elem : TypeId) (sz b o dLen dCap : Nat) (a : Addr) (sLen sCap : Nat) (cs : List Value)
    (hu : P.underlying dT = some (.slice elem)) (hs : (P.info? elem).map (·.size) = some sz) (hn : cs.length = Nat.min sLen dLen * sz)
    (hsrc : ∀ j v, cs[j]? = some v → w.cell? (a.add j) = some v) {cur : Array Value} {e : TypeId} (hh : w.heap[b]? = some (.cells cur e (0, 0))) (hfit : o + cs.length ≤ cur.size) (h1 : ∀ v ∈ cs, v.oneCell' = true) :
    (Builtin.copy_ #[dT, sT] ty #[.slice (some ⟨b, o, none⟩) dLen dCap, .slice (some a) sLen sCap]).run P w = .ok (goInt (Nat.min sLen dLen)) (w.setCells b o cs) := by
  have hl := run_loadCells_list (P := P) w a cs hsrc
  have hst := run_storeCells_cells (P := P) b o cs 0 w (fun j hj => by rw [cell_of_row w b _ cur e (0, 0) hh]; simp; omega) (fun j _ => blk_frozen hh _) h1
  simp only [Nat.add_zero] at hst
  cases hq : P.info? elem with
  | none => simp [hq] at hs
  | some i =>
    have hi : i.size = sz := by simpa [hq] using hs
    rw [hn] at hl
    have hm : Nat.min sLen dLen = min sLen dLen := rfl
    rw [hm] at hl ⊢
    simp [Builtin.copy_, run_underlying hu, Builtin.lenOf, Builtin.firstCells, sizeOf, typeInfo, hq, hi, hl, hst]
/-- Cells of a block that is known whole. -/
theorem blk_list {w : World} {g : Nat} {cur : Array Value} {e : TypeId} (hh : w.heap[g]? = some (.cells cur e (0, 0))) (o k : Nat) : ∀ j v, ((cur.toList.drop o).take k)[j]? = some v → w.cell? ((⟨g, o, none⟩ : Addr).add j) = some v := by
  intro j v hj
  rw [List.getElem?_take] at hj
  split at hj
  · rw [List.getElem?_drop] at hj
    have e : (⟨g, o, none⟩ : Addr).add j = ⟨g, o + j, none⟩ := by unfold Addr.add; split <;> simp_all
    rw [e, blk_cell hh]
    simpa using hj
  · cases hj

theorem k36_M (w : World) (base : Nat) (ok : Nat → Prop) (x : S36) (cs : List Value) : k36.M w base ok x cs ↔ cs = cs36 x := ⟨fun h => k36_openM h, fun h => by rw [h]; exact k36_mkM w base ok x⟩
theorem cs36_len (x : S36) : (cs36 x).length = k36.sz := rfl
theorem cs36_one (x : S36) : ∀ v ∈ cs36 x, v.oneCell' = true := by
  intro v hv
  simp only [cs36, List.mem_cons, List.mem_nil_iff, or_false] at hv
  rcases hv with rfl | rfl | rfl | rfl <;> rfl
/-- A row of one element. -/
theorem one_C36 {w : World} {vb : Nat} {x : S36} (h : w.heap[vb]? = some (.cells (cs36 x).toArray 36 (0, 0))) : ReadsRow (k36.K w) k36.sz w (some ⟨vb, 0, none⟩) 1 [x] := by
  refine ⟨rfl, by omega, fun _ => ⟨_, rfl, fun j p hj => ?_⟩⟩
  cases j with
  | succ j => simp at hj
  | zero =>
    have : x = p := by simpa using hj
    subst this
    refine ⟨cs36 x, rfl, k36_mk w x, fun i u hu => ?_⟩
    rw [add_plain, blk_cell h]
    simpa using hu
set_option maxHeartbeats 4000000 in
theorem item_insert_end (w0 W : World) (v : Value) (l : List S36) (ok : Nat → Prop) (hR : Kd.R k36 36 W w0.heap.size ok v l) (hb : Below w0.heap.size w0 W) (hl : l.length ≤ 1000000) (x : S36) (vb : Nat) (hvb : W.heap[vb]? = some (.cells (cs36 x).toArray 36 (0, 0))) (hne : ∀ k, v.ownBlock = some k → k ≠ vb) :
    Calls Try.prog 59 #[v, .int .i64 l.length, .slice (some ⟨vb, 0, none⟩) 1 1] W fun e w' => ∃ v', e = .returned v' ∧ Kd.R k36 36 w' w0.heap.size (fun k => ok k ∨ W.heap.size ≤ k) v' (l ++ [x]) ∧ Below w0.heap.size w0 w' := by
  have HB := Aside0.mk hb
  have HO := Aside0.mk (Kd.R_mono hR (ok' := fun k => ok k ∨ W.heap.size ≤ k) (fun k hk => .inl hk))
  have HN := Aside0.mk (one_C36 hvb)
  obtain ⟨A, c, rfl⟩ := Kd.R_slice hR
  obtain ⟨_, hlc, _⟩ := Kd.R_reads' hR
  clear hb hR hvb hne
  have hlm : l.length ≤ 9223372036854775807 := by omega
  cases A with
  | none =>
    have h0 : l = [] ∧ c = 0 := by
      rcases plain_open k36_M cs36_len HO.out with ⟨e, h0⟩ | ⟨g, cap, cur, e, _⟩
      · injection e with _ _ e3; exact ⟨h0, e3⟩
      · injection e with e; cases e
    obtain ⟨rfl, rfl⟩ := h0
    go_enter Try.func59, Try.ntmps59
    go_wp2_with ((with_reducible refine gate_builtin (b := .append) (xs := #[.tmp 23, .tmp 24]) rfl ?_); at_builtin; refine Kd.R_append_rows k36 (Rr := k36.K W) (w0 := w0) w0.heap.size rfl (.tmp 23) (.tmp 24) 27 36 _ 32 rfl Try.underlying27 info36 rfl (by decide) (by omega) (.slice none 0 0) [] [x] (some ⟨vb, 0, none⟩) 1 1 (fun k => ok k ∨ W.heap.size ≤ k) (fun _ => False) rfl rfl HO.out HN.out (fun x cs h => by rw [k36_open h]; exact k36_mkM W w0.heap.size (fun _ => False) x) (fun k hk => hk.elim) (fun k hk => .inr hk) HB.out HB.out.size (by simp) ?_; intro v1 w1 ho hb1 _ _; have H1 := Aside0.mk ho; have H2 := Aside0.mk hb1; clear ho hb1)
    go_ret
    exact ⟨_, rfl, H1.out, H2.out⟩
  | some ad =>
  have hcond : (if c = l.length then some ad else some (ad.add (l.length * 4))) = (if c = l.length then some ad else some (ad.add (l.length * 4))) := rfl
  by_cases hc : c = l.length
  · have hcT := eq_true hc
    have HC := Aside0.mk hc
    clear hc
    go_enter Try.func59, Try.ntmps59
    go_wp2_with ((with_reducible refine gate_builtin (b := .append) (xs := #[.tmp 23, .tmp 24]) rfl ?_); at_builtin; refine Kd.R_append_rows k36 (Rr := k36.K W) (w0 := w0) w0.heap.size rfl (.tmp 23) (.tmp 24) 27 36 _ 32 rfl Try.underlying27 info36 rfl (by decide) (by omega) (.slice (some ad) l.length c) l [x] (some ⟨vb, 0, none⟩) 1 1 (fun k => ok k ∨ W.heap.size ≤ k) (fun _ => False) rfl rfl HO.out HN.out (fun x cs h => by rw [k36_open h]; exact k36_mkM W w0.heap.size (fun _ => False) x) (fun k hk => hk.elim) (fun k hk => .inr hk) HB.out HB.out.size (by omega) ?_; intro v1 w1 ho hb1 _ _; have H1 := Aside0.mk ho; have H2 := Aside0.mk hb1; clear ho hb1)
    go_ret
    exact ⟨_, rfl, H1.out, H2.out⟩
  · go_enter Try.func59, Try.ntmps59
    go_wp2_with ((with_reducible refine gate_builtin (b := .append) (xs := #[.tmp 23, .tmp 24]) rfl ?_); at_builtin; refine Kd.R_append_rows k36 (Rr := k36.K W) (w0 := w0) w0.heap.size rfl (.tmp 23) (.tmp 24) 27 36 _ 32 rfl Try.underlying27 info36 rfl (by decide) (by omega) (.slice (some ad) l.length c) l [x] (some ⟨vb, 0, none⟩) 1 1 (fun k => ok k ∨ W.heap.size ≤ k) (fun _ => False) rfl rfl HO.out HN.out (fun x cs h => by rw [k36_open h]; exact k36_mkM W w0.heap.size (fun _ => False) x) (fun k hk => hk.elim) (fun k hk => .inr hk) HB.out HB.out.size (by omega) ?_; intro v1 w1 ho hb1 _ _; have H1 := Aside0.mk ho; have H2 := Aside0.mk hb1; clear ho hb1)
    go_ret
    exact ⟨_, rfl, H1.out, H2.out⟩
theorem zeroL36 (k : Nat) : (Builtin.zeroCells (Value.agg #[.int .i64 0, .int .i64 0, .int .i64 0, .bool false]).cells k).size = k * 4 := by simp [Builtin.zeroCells, Value.cells]
set_option maxHeartbeats 8000000 in
theorem ins_list {β : Type} (cur fl cx C cur1 : List β) (a sz n : Nat) (h1 : cur.take n = fl) (ha : a ≤ n) (hx : cx.length = sz) (hn : n + sz ≤ cur.length) (hC : C = fl.drop a) (h2 : cur1 = cur.take (a + sz) ++ C ++ cur.drop (a + sz + C.length)) :
    (cur1.take a ++ cx ++ cur1.drop (a + sz)).take (n + sz) = fl.take a ++ cx ++ fl.drop a := by
  have hfl : fl.length = n := by rw [← h1, List.length_take]; omega
  have hCl : C.length = n - a := by rw [hC, List.length_drop, hfl]
  have e1 : cur1.take a = fl.take a := by
    rw [h2, List.append_assoc, List.take_append_of_le_length (by rw [List.length_take]; omega), List.take_take, ← h1, List.take_take, Nat.min_eq_left (by omega), Nat.min_eq_left (by omega)]
  have e2 : cur1.drop (a + sz) = C ++ cur.drop (a + sz + C.length) := by
    rw [h2, List.append_assoc, List.drop_append_of_le_length (by rw [List.length_take]; omega), List.drop_eq_nil_of_le (by rw [List.length_take]; omega), List.nil_append]
  rw [e1, e2, ← List.append_assoc, List.take_append_of_le_length (by simp only [List.length_append, List.length_take, hx, hCl, hfl]; omega), List.take_of_length_le (by simp only [List.length_append, List.length_take, hx, hCl, hfl]; omega), hC]
set_option maxRecDepth 100000 in
theorem item_insert_room (w0 W : World) (g n cap : Nat) (l : List S36) (ok : Nat → Prop) (hR : Kd.R k36 36 W w0.heap.size ok (.slice (some ⟨g, 0, none⟩) n cap) l) (hb : Below w0.heap.size w0 W) (i : Nat) (hi : i < l.length) (hl : l.length ≤ 1000000) (hroom : n + 1 ≤ cap) (x : S36) (vb : Nat) (hvb : W.heap[vb]? = some (.cells (cs36 x).toArray 36 (0, 0))) (hne : g ≠ vb) :
    Calls Try.prog 59 #[.slice (some ⟨g, 0, none⟩) n cap, .int .i64 i, .slice (some ⟨vb, 0, none⟩) 1 1] W fun e w' => ∃ v', e = .returned v' ∧ Kd.R k36 36 w' w0.heap.size (fun k => ok k ∨ W.heap.size ≤ k) v' (l.take i ++ x :: l.drop i) ∧ Below w0.heap.size w0 w' := by
  rcases plain_open k36_M cs36_len hR with ⟨e, _⟩ | ⟨g', cap', cur, e, hbg, hok, hh, hlc, hcm, hcs, ht⟩
  · cases e
  injection e with e1 e2 e3
  injection e1 with e1
  injection e1 with e1
  subst e1; subst e3; subst e2
  unfold maxLen at hcm
  have hcs : cur.size = cap * 4 := hcs
  have ht : cur.toList.take (l.length * 4) = flat cs36 l := ht
  have HB := Aside0.mk hb
  have hcl : cur.toList.length = cap * 4 := by rw [Array.length_toList]; exact hcs
  obtain ⟨C1, hC1⟩ : ∃ C1, C1 = ((cur.toList.drop (i * 4)).take ((l.length - i) * 4)) := ⟨_, rfl⟩
  have hC1f : C1 = (flat cs36 l).drop (i * 4) := by rw [hC1, ← ht, List.drop_take, ← Nat.sub_mul]
  have hcall : ∀ v ∈ C1, v.oneCell' = true := fun v hv => by
    rw [hC1f] at hv
    obtain ⟨y, _, hy⟩ := flat_mem cs36 l v (List.mem_of_mem_drop hv)
    exact cs36_one y v hy
  have hC1l : C1.length = (l.length - i) * 4 := by rw [hC1, List.length_take, List.length_drop, hcl]; omega
  have cp1 : ∀ ty dc sc, (Builtin.copy_ #[27, 27] ty #[.slice (some ⟨g, (i + 1) * 4, none⟩) (l.length - i) dc, .slice (some ⟨g, i * 4, none⟩) (l.length + 1 - i) sc]).run Try.prog W.drew = .ok (goInt (l.length - i : Nat)) (W.drew.setCells g ((i + 1) * 4) C1) := fun ty dc sc =>
    by
      have hmin : Nat.min (l.length + 1 - i) (l.length - i) = l.length - i := by show min _ _ = _; omega
      have := copy_rows_run (P := Try.prog) W.drew 27 27 ty 36 4 g ((i + 1) * 4) (l.length - i) dc ⟨g, i * 4, none⟩ (l.length + 1 - i) sc C1 Try.underlying27 sz36 (by rw [hC1l, hmin]) (by rw [hC1]; exact blk_list (w := W.drew) hh (i * 4) _) (blk_drew hh) (by rw [hC1l, hcs]; omega) hcall
      rw [hmin] at this
      exact this
  have hvl : W.heap.size = W.heap.size := rfl
  have hi1 : (i : Int) < (l.length : Int) := by omega
  have hin : ((i : Int) == (l.length : Int)) = false := by simp; omega
  have hrm : ¬ (cap : Int) < (l.length : Int) + 1 := by omega
  have hcn : ¬ cap = i := by omega
  have hcn1 : ¬ cap = i + 1 := by omega
  have h01 : (0 : Int) ≤ (i : Int) + 1 := by omega
  have h02 : (0 : Int) ≤ (l.length : Int) + 1 := by omega
  have hov : ∀ lb cb, (callFunc 69 #[.slice (some ⟨vb, 0, none⟩) 1 1, .slice (some ⟨g, (i + 1) * 4, none⟩) lb cb]).run Try.prog W = .ok (.value (.bool false)) W := fun lb cb => by
    rw [run_callFunc_extern Try.func69 (by kernel_rfl) (by kernel_rfl) (by kernel_rfl) (e := Extern.SlicesOverlaps.overlaps #[27, 27] #[4]) (by kernel_rfl),
      Lib.run_overlaps_apart W 27 4 36 Try.underlying27 4 (fun w => by kernel_rfl) ⟨vb, 0, none⟩ ⟨g, (i + 1) * 4, none⟩ 1 1 lb cb (by exact fun e => hne e.symm) 36 36 4 (cap * 4) (by show W.shape? vb = _; unfold World.shape?; rw [hvb]; rfl) (by show W.shape? g = _; unfold World.shape?; rw [hh]; show some (36, cur.size) = _; rw [hcs]) (by omega) (blk_frozen hvb 0) (blk_frozen hvb 4)]
    rfl
  obtain ⟨cur1, k1, k2, k3⟩ := setCells_row C1 ((i + 1) * 4) W.drew cur (blk_drew hh) (by rw [hC1l, hcs]; omega)
  obtain ⟨W1, hW1⟩ : ∃ W1, W1 = W.drew.setCells g ((i + 1) * 4) C1 := ⟨_, rfl⟩
  rw [← hW1] at cp1 k1
  have hv1 : W1.heap[vb]? = some (.cells (cs36 x).toArray 36 (0, 0)) := by rw [hW1, setCells_far _ _ _ (Ne.symm hne)]; exact hvb
  have cp2 : ∀ ty dc sc dl, 0 < dl → (Builtin.copy_ #[27, 27] ty #[.slice (some ⟨g, i * 4, none⟩) dl dc, .slice (some ⟨vb, 0, none⟩) 1 sc]).run Try.prog W1 = .ok (goInt 1) (W1.setCells g (i * 4) (cs36 x)) := fun ty dc sc dl hdl => by
    have := copy_rows_run (P := Try.prog) W1 27 27 ty 36 4 g (i * 4) dl dc ⟨vb, 0, none⟩ 1 sc (cs36 x) Try.underlying27 sz36 (by rw [show Nat.min 1 dl = 1 from by show min _ _ = _; omega]; rfl) (fun j v hj => by rw [add_plain, blk_cell hv1]; simpa using hj) k1 (by rw [k2, hcs]; show i * 4 + 4 ≤ _; omega) (cs36_one x)
    rw [show Nat.min 1 dl = 1 from by show min _ _ = _; omega] at this
    exact this
  have cp2' := fun ty dc sc => cp2 ty dc sc (l.length + 1 - i) (by omega)
  have HK1 := Aside0.mk k1
  have HK2 := Aside0.mk k2
  have HK3 := Aside0.mk k3
  have HW1 := Aside0.mk hW1
  have HC1 := Aside0.mk hC1f
  have HCT := Aside0.mk hcl
  have HCL := Aside0.mk hC1l
  have HHH := Aside0.mk hh
  have HT := Aside0.mk ht
  have HCS := Aside0.mk hcs
  have hm1 : min (l.length + 1 - i) (l.length - i) = l.length - i := by omega
  have hwi : IntKind.i64.wrap ((i : Int) + 1) = (i : Int) + 1 := by rw [IntKind.wrap_i64]; omega
  have hx1 : i ≤ l.length := by omega
  have hx2 : (i : Int) ≤ (l.length : Int) := by omega
  have hx3 : i ≤ l.length + 1 := by omega
  have hx4 : (i : Int) ≤ (l.length : Int) + 1 := by omega
  clear k1 k2 k3 hW1 hC1 hC1f hh ht hcs hcl hcall hC1l cp2 hR hb
  go_enter Try.func59, Try.ntmps59
  go_wp2
  refine wp_region_still_tail 8 (by kernel_rfl) (by kernel_rfl) ?_
  simp only [List.take_succ_cons, List.take_zero, List.drop_succ_cons, List.drop_zero]
  repeat (still_step)
  refine wpStill_nil ?_
  change wpList _ _ _ _ _ W.drew
  go_wp2
  go_ret
  obtain ⟨cur2, m1, m2, m3⟩ := setCells_row (cs36 x) (i * 4) W1 cur1 HK1.out (by rw [HK2.out, HCS.out]; show i * 4 + 4 ≤ _; omega)
  have hlen : (l.take i ++ x :: l.drop i).length = l.length + 1 := by rw [List.length_append, List.length_take, List.length_cons, List.length_drop]; omega
  have hfin : cur2.toList.take ((l.length + 1) * 4) = flat cs36 (l.take i ++ x :: l.drop i) := by
    rw [m3]
    have := ins_list cur.toList (flat cs36 l) (cs36 x) C1 cur1.toList (i * 4) 4 (l.length * 4) HT.out (by omega) rfl (by rw [HCT.out]; omega) HC1.out (by rw [HK3.out, show (i + 1) * 4 = i * 4 + 4 by omega])
    rw [show (l.length + 1) * 4 = l.length * 4 + 4 by omega]
    show List.take _ (cur1.toList.take (i * 4) ++ cs36 x ++ cur1.toList.drop (i * 4 + 4)) = _
    rw [this, flat_append, flat, flat_take cs36 (sz := 4) (fun _ => rfl), flat_drop cs36 (sz := 4) (fun _ => rfl), List.append_assoc]
  have hres := plain_shut (d := k36) (e := 36) (base := w0.heap.size) (W := W1.setCells g (i * 4) (cs36 x)) (ok := fun k => ok k ∨ W.heap.size ≤ k) (l := l.take i ++ x :: l.drop i) k36_M cs36_len hbg (.inl hok) m1 (by rw [hlen]; exact hroom) (by unfold maxLen; exact hcm) (by rw [m2, HK2.out, HCS.out]; rfl) (by rw [hlen]; exact hfin)
  rw [hlen] at hres
  have hbel : Below w0.heap.size w0 (W1.setCells g (i * 4) (cs36 x)) := by
    obtain ⟨a1, a2, a3, a4⟩ := setCells_same g (cs36 x) (i * 4) W1
    obtain ⟨b1, b2, b3, b4⟩ := setCells_same g C1 ((i + 1) * 4) W.drew
    rw [← HW1.out] at b1 b2 b3 b4
    have h := HB.out
    refine ⟨a1.trans (b1.trans h.os), a2.trans (b2.trans h.tape), a3.trans (b3.trans h.output), by rw [a4, b4]; exact h.size, fun k hk => ?_⟩
    rw [setCells_far _ _ k (by omega), HW1.out, setCells_far _ _ k (by omega)]
    exact h.block k hk
  exact ⟨_, rfl, hres, hbel⟩
theorem wpList_append_run {P : Program} {ops : Array Oper} {rest : List Oper} {o : Oper} {a : Act} {Q : Exit → Act → World → Prop} {W w1 : World} (hgd : o.guard = none) (s x : Operand) (t1 t2 : TypeId) (ho : o.op = .call { callee := .builtin .append, args := #[s, x], argTypes := #[t1, t2] })
    {u v r : Value} (hs : a.eval s = u) (hx : a.eval x = v) (hr : (Builtin.append_ #[t1, t2] o.type #[u, v]).run P W = .ok r w1) (h : wpList P ops Q rest (a.put o.dst r) w1) : wpList P ops Q (o :: rest) a W := by
  refine wpList_plain hgd fun K hK => ?_
  unfold Oper.wp execOp
  simp only [ho, resolve, invoke, builtin, Sem.run_bind, Sem.run_pure, Result.andThen_ok, List.map_toArray, List.map_cons, List.map_nil, hs, hx, hr]
  exact hK _ _ h
set_option maxHeartbeats 8000000 in
set_option maxRecDepth 100000 in
theorem item_insert_grow (w0 W : World) (g n cap : Nat) (l : List S36) (ok : Nat → Prop) (hR : Kd.R k36 36 W w0.heap.size ok (.slice (some ⟨g, 0, none⟩) n cap) l) (hb : Below w0.heap.size w0 W) (i : Nat) (hi : i < l.length) (hl : l.length ≤ 1000000) (hroom : ¬ n + 1 ≤ cap) (x : S36) (vb : Nat) (hvb : W.heap[vb]? = some (.cells (cs36 x).toArray 36 (0, 0))) (hne : g ≠ vb) :
    Calls Try.prog 59 #[.slice (some ⟨g, 0, none⟩) n cap, .int .i64 i, .slice (some ⟨vb, 0, none⟩) 1 1] W fun e w' => ∃ v', e = .returned v' ∧ Kd.R k36 36 w' w0.heap.size (fun k => ok k ∨ W.heap.size ≤ k) v' (l.take i ++ x :: l.drop i) ∧ Below w0.heap.size w0 w' := by
  rcases plain_open k36_M cs36_len hR with ⟨e, _⟩ | ⟨g', cap', cur, e, hbg, hok, hh, hlc, hcm, hcs, ht⟩
  · cases e
  injection e with e1 e2 e3
  injection e1 with e1
  injection e1 with e1
  subst e1; subst e3; subst e2
  have hcn : cap = l.length := by omega
  subst hcn
  have hcs : cur.size = l.length * 4 := hcs
  have ht : cur.toList.take (l.length * 4) = flat cs36 l := ht
  have HB := Aside0.mk hb
  have hcl : cur.toList.length = l.length * 4 := by rw [Array.length_toList]; exact hcs
  rw [List.take_of_length_le (by omega)] at ht
  obtain ⟨i0, hi0, hz0, hzs, hzb⟩ := info_parts info36
  have hgw : g < W.heap.size := blk_lt hh
  have hvw : vb < W.heap.size := blk_lt hvb
  have hold : (Builtin.firstCells i0.size i (.slice (some ⟨g, 0, none⟩) i l.length)).run Try.prog W.drew = .ok (flat cs36 (l.take i)).toArray W.drew := by
    rw [hzs]
    exact run_firstCells_some W.drew 4 i ⟨g, 0, none⟩ i l.length (flat cs36 (l.take i)) (by rw [flat_len cs36 (sz := 4) (fun _ => rfl), List.length_take]; omega) (fun j v hj => by
      rw [add_plain, blk_cell (blk_drew hh), ← flat_take cs36 (sz := 4) (fun _ => rfl), ← ht, List.getElem?_take] at *
      split at hj
      · simpa using hj
      · cases hj)
  have hrz : ∀ ty, (Builtin.append_ #[27, 3] ty #[.slice (some ⟨g, 0, none⟩) i l.length, .int .i64 ((l.length : Int) + 1 - (i : Int))]).run Try.prog W =
      .ok (.slice (some ⟨W.heap.size, 0, none⟩) (l.length + 1) (grownCap W (l.length + 1) l.length 36)) (W.drew.alloc (.cells ((flat cs36 (l.take i)).toArray ++ Builtin.zeroCells (Value.agg #[.int .i64 0, .int .i64 0, .int .i64 0, .bool false]).cells (l.length + 1 - i) ++ Builtin.zeroCells (Value.agg #[.int .i64 0, .int .i64 0, .int .i64 0, .bool false]).cells (grownCap W (l.length + 1) l.length 36 - (l.length + 1))) 36)) := fun ty => by
    have h := Lib.run_append_grow_zeros W 27 3 ty 36 i0 _ .i64 .i64 Try.underlying27 Try.underlying3 hi0 hz0 (some ⟨g, 0, none⟩) i l.length (flat cs36 (l.take i)) hold (l.length + 1 - i) (by omega) (by omega) (by omega) (by omega) (by rw [hzb]; omega) (by rw [hzb, show i + (l.length + 1 - i) = l.length + 1 by omega]; exact growslice_fits (by omega) (by omega))
    rw [show i + (l.length + 1 - i) = l.length + 1 by omega] at h
    rw [show (l.length : Int) + 1 - (i : Int) = ((l.length + 1 - i : Nat) : Int) by omega]
    exact h
  have hG1 : l.length + 1 ≤ grownCap W (l.length + 1) l.length 36 := grownCap_ge W _ _ _
  have hG2 := grownCap_le_maxLen W (l.length + 1) l.length 36 (by unfold maxLen; omega)
  obtain ⟨G, hG⟩ : ∃ G, G = grownCap W (l.length + 1) l.length 36 := ⟨_, rfl⟩
  rw [← hG] at hrz hG1 hG2
  obtain ⟨ROW, hROW⟩ : ∃ ROW : Array Value, ROW = (flat cs36 (l.take i)).toArray ++ Builtin.zeroCells (Value.agg #[.int .i64 0, .int .i64 0, .int .i64 0, .bool false]).cells (l.length + 1 - i) ++ Builtin.zeroCells (Value.agg #[.int .i64 0, .int .i64 0, .int .i64 0, .bool false]).cells (G - (l.length + 1)) := ⟨_, rfl⟩
  rw [← hROW] at hrz
  have hRl : ROW.size = G * 4 := by
    rw [hROW]
    simp only [Array.size_append, zeroL36, List.size_toArray, flat_len cs36 (sz := 4) (fun _ => rfl), List.length_take]
    omega
  have hRt : ROW.toList.take (i * 4) = flat cs36 (l.take i) := by
    have hfl : (flat cs36 (l.take i)).length = i * 4 := by rw [flat_len cs36 (sz := 4) (fun _ => rfl), List.length_take]; omega
    rw [hROW]
    simp only [Array.toList_append, List.append_assoc]
    rw [List.take_append_of_le_length (by omega), List.take_of_length_le (by omega)]
  obtain ⟨W1, hW1⟩ : ∃ W1, W1 = W.drew.alloc (.cells ROW 36) := ⟨_, rfl⟩
  rw [← hW1] at hrz
  have b1 : W1.heap[W.heap.size]? = some (.cells ROW 36 (0, 0)) := by rw [hW1]; exact blk_new W.drew _
  have b2 : W1.heap[g]? = some (.cells cur 36 (0, 0)) := by rw [hW1]; exact blk_alloc (blk_drew hh) _
  have b3 : W1.heap[vb]? = some (.cells (cs36 x).toArray 36 (0, 0)) := by rw [hW1]; exact blk_alloc (blk_drew hvb) _
  have cp1 : ∀ ty dc sc, (Builtin.copy_ #[27, 27] ty #[.slice (some ⟨W.heap.size, i * 4, none⟩) (l.length + 1 - i) dc, .slice (some ⟨vb, 0, none⟩) 1 sc]).run Try.prog W1 = .ok (goInt 1) (W1.setCells W.heap.size (i * 4) (cs36 x)) := fun ty dc sc => by
    have := copy_rows_run (P := Try.prog) W1 27 27 ty 36 4 W.heap.size (i * 4) (l.length + 1 - i) dc ⟨vb, 0, none⟩ 1 sc (cs36 x) Try.underlying27 sz36 (by rw [show Nat.min 1 (l.length + 1 - i) = 1 from by show min _ _ = _; omega]; rfl) (fun j v hj => by rw [add_plain, blk_cell b3]; simpa using hj) b1 (by rw [hRl]; show i * 4 + 4 ≤ _; omega) (cs36_one x)
    rw [show Nat.min 1 (l.length + 1 - i) = 1 from by show min _ _ = _; omega] at this
    exact this
  obtain ⟨cur1, k1, k2, k3⟩ := setCells_row (cs36 x) (i * 4) W1 ROW b1 (by rw [hRl]; show i * 4 + 4 ≤ _; omega)
  obtain ⟨W2, hW2⟩ : ∃ W2, W2 = W1.setCells W.heap.size (i * 4) (cs36 x) := ⟨_, rfl⟩
  rw [← hW2] at cp1 k1
  have b4 : W2.heap[g]? = some (.cells cur 36 (0, 0)) := by rw [hW2, setCells_far _ _ _ (by omega)]; exact b2
  obtain ⟨C, hC⟩ : ∃ C, C = flat cs36 (l.drop i) := ⟨_, rfl⟩
  have hCl : C.length = (l.length - i) * 4 := by rw [hC, flat_len cs36 (sz := 4) (fun _ => rfl), List.length_drop]
  have cp2 : ∀ ty dc sc, (Builtin.copy_ #[27, 27] ty #[.slice (some ⟨W.heap.size, (i + 1) * 4, none⟩) (l.length - i) dc, .slice (some ⟨g, i * 4, none⟩) (l.length - i) sc]).run Try.prog W2.drew = .ok (goInt (l.length - i : Nat)) (W2.drew.setCells W.heap.size ((i + 1) * 4) C) := fun ty dc sc => by
    have hmin : Nat.min (l.length - i) (l.length - i) = l.length - i := by show min _ _ = _; omega
    have := copy_rows_run (P := Try.prog) W2.drew 27 27 ty 36 4 W.heap.size ((i + 1) * 4) (l.length - i) dc ⟨g, i * 4, none⟩ (l.length - i) sc C Try.underlying27 sz36 (by rw [hCl, hmin]) (fun j v hj => by
      refine blk_list (w := W2.drew) (blk_drew b4) (i * 4) (C.length) j v ?_
      rw [ht, flat_drop cs36 (sz := 4) (fun _ => rfl), ← hC, List.take_of_length_le (Nat.le_refl _)]
      exact hj) (blk_drew k1) (by rw [hCl, k2, hRl]; omega) (fun v hv => by
        rw [hC] at hv
        obtain ⟨y, _, hy⟩ := flat_mem cs36 _ v hv
        exact cs36_one y v hy)
    rw [hmin] at this
    exact this
  have hi1 : (i : Int) < (l.length : Int) := by omega
  have hin : ((i : Int) == (l.length : Int)) = false := by simp; omega
  have hrm : (l.length : Int) < (l.length : Int) + 1 := by omega
  have hrmb : decide ((l.length : Int) < (l.length : Int) + 1) = true := decide_eq_true hrm
  have hcni : ¬ l.length = i := by omega
  have hGi : ¬ G = i := by omega
  have hGi1 : ¬ G = i + 1 := by omega
  have h01 : (0 : Int) ≤ (i : Int) + 1 := by omega
  have hwi : IntKind.i64.wrap ((i : Int) + 1) = (i : Int) + 1 := by rw [IntKind.wrap_i64]; omega
  have hwn : IntKind.i64.wrap ((l.length : Int) + 1) = (l.length : Int) + 1 := by rw [IntKind.wrap_i64]; omega
  have hwk : IntKind.i64.wrap ((l.length : Int) + 1 - (i : Int)) = (l.length : Int) + 1 - (i : Int) := by rw [IntKind.wrap_i64]; omega
  have hx1 : i ≤ l.length := by omega
  have hx2 : (i : Int) ≤ (l.length : Int) := by omega
  have hx3 : i ≤ l.length + 1 := by omega
  have hG3 : l.length ≤ G := by omega
  have HK1 := Aside0.mk k1
  have HK2 := Aside0.mk k2
  have HK3 := Aside0.mk k3
  have HW1 := Aside0.mk hW1
  have HW2 := Aside0.mk hW2
  have HC := Aside0.mk hC
  have HCL := Aside0.mk hCl
  have HRL := Aside0.mk hRl
  have HRT := Aside0.mk hRt
  have HG2 := Aside0.mk hG2
  clear k1 k2 k3 hW1 hW2 hC hCl hRl hRt hROW hG hG2 b1 b2 b3 b4 hh ht hcs hcl hold hi0 hz0 hzs hzb hR hb hvb hok hcm hlc
  have HRZ := Aside0.mk hrz
  clear hrz
  go_enter Try.func59, Try.ntmps59
  go_wp2_with ((with_reducible refine gate_builtin (b := .append) (xs := #[.tmp 34, .tmp 39]) rfl ?_); refine wpList_append_run rfl (.tmp 34) (.tmp 39) 27 3 rfl (u := .slice (some ⟨g, 0, none⟩) i l.length) (v := .int .i64 ((l.length : Int) + 1 - (i : Int))) rfl rfl (HRZ.out _) ?_)
  refine wp_region_still_tail 8 (by kernel_rfl) (by kernel_rfl) ?_
  simp only [List.take_succ_cons, List.take_zero, List.drop_succ_cons, List.drop_zero]
  repeat (still_step)
  refine wpStill_nil ?_
  change wpList _ _ _ _ _ W2.drew
  go_wp2
  go_ret
  obtain ⟨cur2, m1, m2, m3⟩ := setCells_row C ((i + 1) * 4) W2.drew cur1 (blk_drew HK1.out) (by rw [HK2.out, HRL.out, HCL.out]; omega)
  have hlen : (l.take i ++ x :: l.drop i).length = l.length + 1 := by rw [List.length_append, List.length_take, List.length_cons, List.length_drop]; omega
  have hfin : cur2.toList.take ((l.length + 1) * 4) = flat cs36 (l.take i ++ x :: l.drop i) := by
    have hfl : (flat cs36 (l.take i)).length = i * 4 := by rw [flat_len cs36 (sz := 4) (fun _ => rfl), List.length_take]; omega
    have e1 : cur1.toList.take ((i + 1) * 4) = flat cs36 (l.take i) ++ cs36 x := by
      rw [HK3.out, HRT.out, List.take_append_of_le_length (by rw [List.length_append, hfl]; show (i + 1) * 4 ≤ i * 4 + 4; omega), List.take_of_length_le (by rw [List.length_append, hfl]; show i * 4 + 4 ≤ (i + 1) * 4; omega)]
    rw [m3, e1, List.take_append_of_le_length (by simp only [List.length_append, hfl, HCL.out]; show _ ≤ i * 4 + 4 + _; omega), List.take_of_length_le (by simp only [List.length_append, hfl, HCL.out]; show i * 4 + 4 + _ ≤ _; omega), flat_append, flat, HC.out, List.append_assoc]
  have hres := plain_shut (d := k36) (e := 36) (base := w0.heap.size) (W := W2.drew.setCells W.heap.size ((i + 1) * 4) C) (ok := fun k => ok k ∨ W.heap.size ≤ k) (l := l.take i ++ x :: l.drop i) k36_M cs36_len HB.out.size (.inr (Nat.le_refl _)) m1 (by rw [hlen]; exact hG1) HG2.out (by rw [m2, HK2.out, HRL.out]; rfl) (by rw [hlen]; exact hfin)
  rw [hlen] at hres
  have hbel : Below w0.heap.size w0 (W2.drew.setCells W.heap.size ((i + 1) * 4) C) := by
    have h0 := HB.out.size
    have h1 : Below w0.heap.size w0 W1 := by rw [HW1.out]; exact below_alloc (below_drew1 HB.out) _
    obtain ⟨a1, a2, a3, a4⟩ := setCells_same W.heap.size C ((i + 1) * 4) W2.drew
    obtain ⟨b1, b2, b3, b4⟩ := setCells_same W.heap.size (cs36 x) (i * 4) W1
    rw [← HW2.out] at b1 b2 b3 b4
    refine ⟨a1.trans (b1.trans h1.os), a2.trans (b2.trans h1.tape), a3.trans (b3.trans h1.output), by rw [a4]; show _ ≤ W2.heap.size; rw [b4]; exact h1.size, fun k hk => ?_⟩
    rw [setCells_far _ _ k (by omega)]
    show W2.heap[k]? = _
    rw [HW2.out, setCells_far _ _ k (by omega)]
    exact h1.block k hk
  exact ⟨_, rfl, hres, hbel⟩
theorem item_insert (w0 W : World) (v : Value) (l : List S36) (ok : Nat → Prop) (hR : Kd.R k36 36 W w0.heap.size ok v l) (hb : Below w0.heap.size w0 W) (i : Nat) (hi : i ≤ l.length) (hl : l.length ≤ 1000000) (x : S36) (vb : Nat) (hvb : W.heap[vb]? = some (.cells (cs36 x).toArray 36 (0, 0))) (hne : ∀ k, v.ownBlock = some k → k ≠ vb) :
    Calls Try.prog 59 #[v, .int .i64 i, .slice (some ⟨vb, 0, none⟩) 1 1] W fun e w' => ∃ v', e = .returned v' ∧ Kd.R k36 36 w' w0.heap.size (fun k => ok k ∨ W.heap.size ≤ k) v' (l.take i ++ x :: l.drop i) ∧ Below w0.heap.size w0 w' := by
  rcases Nat.lt_or_ge i l.length with h | h
  · rcases plain_open k36_M cs36_len hR with ⟨rfl, rfl⟩ | ⟨g, cap, cur, rfl, _⟩
    · simp at h
    · by_cases hr : l.length + 1 ≤ cap
      · exact item_insert_room w0 W g l.length cap l ok hR hb i h hl hr x vb hvb (hne g (by simp [Value.ownBlock]))
      · exact item_insert_grow w0 W g l.length cap l ok hR hb i h hl hr x vb hvb (hne g (by simp [Value.ownBlock]))
  · have : i = l.length := by omega
    subst this
    rw [List.take_length, List.drop_length]
    exact item_insert_end w0 W v l ok hR hb hl x vb hvb hne

def cmpV (a b : Int) : Int := if a < b then -1 else if b < a then 1 else 0
theorem isnan_any (x : Int) (w : World) : Calls Try.prog 68 #[.int .i64 x] w fun e w' => e = .returned (.bool false) ∧ w = w' := by
  go_enter Try.func68, Try.ntmps68
  go_wp2
  go_ret
  exact ⟨by simp, rfl⟩
theorem cmp_any (a b : Int) (w : World) : Calls Try.prog 57 #[.int .i64 a, .int .i64 b] w fun e w' => e = .returned (.int .i64 (cmpV a b)) ∧ w = w' := by
  by_cases h1 : a < b
  · have h1b : decide (a < b) = true := decide_eq_true h1
    have E : Aside0 (cmpV a b = -1) := ⟨by unfold cmpV; rw [if_pos h1]⟩
    clear h1
    go_enter Try.func57, Try.ntmps57
    go_wp2_with (go_at_call 68; refine (isnan_any _ _).mono ?_; rintro e w' ⟨rfl, rfl⟩)
    go_ret
    exact ⟨by rw [E.out]; rfl, rfl⟩
  · have h1b : decide (a < b) = false := decide_eq_false h1
    by_cases h2 : b < a
    · have h2b : decide (b < a) = true := decide_eq_true h2
      have E : Aside0 (cmpV a b = 1) := ⟨by unfold cmpV; rw [if_neg h1, if_pos h2]⟩
      clear h1 h2
      go_enter Try.func57, Try.ntmps57
      go_wp2_with (go_at_call 68; refine (isnan_any _ _).mono ?_; rintro e w' ⟨rfl, rfl⟩)
      go_ret
      exact ⟨by rw [E.out]; rfl, rfl⟩
    · have h2b : decide (b < a) = false := decide_eq_false h2
      have E : Aside0 (cmpV a b = 0) := ⟨by unfold cmpV; rw [if_neg h1, if_neg h2]⟩
      clear h1 h2
      go_enter Try.func57, Try.ntmps57
      go_wp2_with (go_at_call 68; refine (isnan_any _ _).mono ?_; rintro e w' ⟨rfl, rfl⟩)
      go_ret
      exact ⟨by rw [E.out]; rfl, rfl⟩
theorem addcmp (W : World) (x : S36) (id : Int) :
    Calls Try.prog 56 #[.agg #[.int .i64 x.f0, .int .i64 x.f1, .int .i64 x.f2, .bool x.f3], .int .i64 id] W fun e w' => e = .returned (.int .i64 (cmpV x.f0 id)) ∧ Below W.heap.size W w' := by
  go_enter Try.func56, Try.ntmps56
  go_wp2_with (go_at_call 57; refine (cmp_any _ _ _).mono ?_; rintro e w' ⟨rfl, rfl⟩)
  go_ret
  exact ⟨rfl, (Below.refl _ _).alloc (Nat.le_refl _) _⟩
theorem cmpV_lt {a b : Int} (h : a < b) : cmpV a b = -1 := by unfold cmpV; rw [if_pos h]
theorem cmpV_ge {a b : Int} (h : ¬ a < b) : 0 ≤ cmpV a b := by unfold cmpV; rw [if_neg h]; split <;> omega
def BsPost (l : List S36) (id : Int) (e : Ending) : Prop := ∃ (i : Nat) (b : Bool), e = .returned (.tuple #[.int .i64 i, .bool b]) ∧ i ≤ l.length ∧ (∀ k : Nat, k < i → (rd_T36 l k).f0 < id) ∧ (∀ k : Nat, i ≤ k → k < l.length → id ≤ (rd_T36 l k).f0)
set_option maxHeartbeats 4000000 in
theorem bsearch (A : Option Addr) (c : Nat) (l : List S36) (id : Int) (w : World) (hr : Kd.C k36 w A l.length l) (hl : l.length ≤ 1000000) (hs : ∀ a b : Nat, a < b → b < l.length → (rd_T36 l a).f0 < (rd_T36 l b).f0) :
    Calls Try.prog 55 #[.slice A l.length c, .int .i64 id, .func (.func 56) #[] #[]] w fun e w' => BsPost l id e ∧ Below w.heap.size w w' := by
  have HR := Aside0.mk hr
  have HS := Aside0.mk hs
  clear hr hs
  go_enter Try.func55, Try.ntmps55
  go_wp2
  go_loopg [9, 10, 11] l.length (fun gg s9 s10 _ wr => ∃ i j : Nat, i ≤ j ∧ j ≤ l.length ∧ j - i ≤ gg ∧ s9 = .int .i64 i ∧ s10 = .int .i64 j ∧ Aside0 (Below w.heap.size w wr) ∧ Aside0 (∀ k, k < i → (rd_T36 l k).f0 < id) ∧ Aside0 (∀ k, j ≤ k → k < l.length → id ≤ (rd_T36 l k).f0))
  case atStart => exact ⟨0, l.length, Nat.zero_le _, Nat.le_refl _, by omega, rfl, rfl, ⟨Below.refl _ _⟩, ⟨fun k hk => absurd hk (Nat.not_lt_zero _)⟩, ⟨fun k h1 h2 => absurd h2 (by omega)⟩⟩
  case round =>
    obtain ⟨i, j, hij, hj, hg, rfl, rfl, BW, LO, HI⟩ := hrel
    by_cases hlt : i < j
    · have hltz : (i : Int) < (j : Int) := by omega
      have w1 : IntKind.i64.wrap ((i : Int) + (j : Int)) = (i : Int) + (j : Int) := by rw [IntKind.wrap_i64]; omega
      obtain ⟨m, hm⟩ : ∃ m, m = (i + j) / 2 := ⟨_, rfl⟩
      have hmz : ((i : Int) + (j : Int)) / 2 = (m : Int) := by omega
      have hm1 : i ≤ m := by omega
      have hm2 : m < j := by omega
      have hm3 : m < l.length := by omega
      have hm4 : (m : Int) < (l.length : Int) := by omega
      have w2 : IntKind.i64.wrap ((m : Int) + 1) = (m : Int) + 1 := by rw [IntKind.wrap_i64]; omega
      clear hm
      obtain ⟨ad, e, h0, h1, h2, h3⟩ := at_T36 (Kd.C_below HR.out BW.out) (m : Int) (by omega) (by omega)
      simp only [Int.toNat_natCast] at h0 h1 h2 h3
      cases e
      by_cases hq : (rd_T36 l m).f0 < id
      · have HQ := Aside0.mk hq
        have E : Aside0 (cmpV (rd_T36 l m).f0 id = -1) := ⟨cmpV_lt hq⟩
        clear hq
        go_wp2_with (go_at_call 56; refine (addcmp _ (rd_T36 l m) id).mono ?_; rintro e w' ⟨rfl, hb'⟩; rw [E.out])
        go_roundg (j - (m + 1))
        case measure => omega
        case rel =>
          refine ⟨m + 1, j, by omega, hj, by omega, by go_num, rfl, ⟨BW.out.trans (hb'.mono BW.out.size)⟩, ⟨fun k hk => ?_⟩, HI⟩
          rcases Nat.lt_or_ge k m with h | h
          · exact Int.lt_trans (HS.out k m h hm3) HQ.out
          · have : k = m := by omega
            subst this; exact HQ.out
      · have HQ := Aside0.mk hq
        obtain ⟨z, hz⟩ : ∃ z, cmpV (rd_T36 l m).f0 id = z := ⟨_, rfl⟩
        have hz0 : 0 ≤ z := by rw [← hz]; exact cmpV_ge hq
        have HZ := Aside0.mk hz
        have hzb : decide (z < 0) = false := decide_eq_false (by omega)
        clear hq hz
        go_wp2_with (go_at_call 56; refine (addcmp _ (rd_T36 l m) id).mono ?_; rintro e w' ⟨rfl, hb'⟩; rw [HZ.out])
        go_roundg (m - i)
        case measure => omega
        case rel =>
          refine ⟨i, m, hm1, by omega, by omega, rfl, rfl, ⟨BW.out.trans (hb'.mono BW.out.size)⟩, LO, ⟨fun k h1 h2 => ?_⟩⟩
          rcases Nat.lt_or_ge m k with h | h
          · exact Int.le_trans (HQ.out) (Int.le_of_lt (HS.out m k h h2))
          · have : k = m := by omega
            subst this; exact HQ.out
    · have he : i = j := by omega
      subst he
      have hltz : ¬ (i : Int) < (i : Int) := by omega
      by_cases hil : i < l.length
      · have hilz : decide ((i : Int) < (l.length : Int)) = true := by simp; omega
        have hin : (i : Int) < (l.length : Int) := by omega
        obtain ⟨ad, e, h0, h1, h2, h3⟩ := at_T36 (Kd.C_below HR.out BW.out) (i : Int) (by omega) (by omega)
        simp only [Int.toNat_natCast] at h0 h1 h2 h3
        cases e
        go_wp2_with (go_at_call 56; refine (addcmp _ (rd_T36 l i) id).mono ?_; rintro e w' ⟨rfl, hb'⟩)
        go_ret2
        exact ⟨⟨i, _, rfl, by omega, LO.out, HI.out⟩, BW.out.trans (hb'.mono BW.out.size)⟩
      · have hilz : decide ((i : Int) < (l.length : Int)) = false := by simp; omega
        go_wp2
        go_ret2
        exact ⟨⟨i, _, rfl, by omega, LO.out, HI.out⟩, BW.out⟩

def posOf (l : List S36) (id : Int) : Nat := (l.takeWhile (fun x => decide (x.f0 < id))).length
theorem posOf_eq (id : Int) : ∀ (l : List S36) (i : Nat), i ≤ l.length → (∀ k : Nat, k < i → (rd_T36 l k).f0 < id) → (∀ k : Nat, i ≤ k → k < l.length → id ≤ (rd_T36 l k).f0) → posOf l id = i
  | [], i, hi, _, _ => by simp at hi; subst hi; rfl
  | x :: l, 0, _, _, h2 => by
    have : id ≤ x.f0 := h2 0 (Nat.zero_le _) (by simp)
    unfold posOf
    rw [List.takeWhile_cons, decide_eq_false (by omega)]; rfl
  | x :: l, i + 1, hi, h1, h2 => by
    have h0 : x.f0 < id := h1 0 (by omega)
    have ih := posOf_eq id l i (by simpa using hi) (fun k hk => by simpa [rd_T36] using h1 (k + 1) (by omega)) (fun k hk hl => by simpa [rd_T36] using h2 (k + 1) (by omega) (by simp; omega))
    unfold posOf at ih ⊢
    rw [List.takeWhile_cons, decide_eq_true h0]
    simp [ih]
theorem posOf_le (l : List S36) (id : Int) : posOf l id ≤ l.length := by
  unfold posOf
  exact (List.takeWhile_prefix _).length_le
def addL (q : Int) (l : List S36) (id n : Int) : List S36 := l.take (posOf l id) ++ ⟨id, n, q, false⟩ :: l.drop (posOf l id)
def addV (q : Int) (l : List S36) (id n : Int) : Int × List S36 × Int :=
  if ckV q l = true then (if costV n = 0 ∨ id = 0 then (0, [], 3) else (if 0 ≤ idxOf l id then (0, [], 5) else (if 192 ≤ l.length then (0, [], 7) else (settleV q (addL q l id n), addL q l id n, 0)))) else (0, [], 1)
def virtual_Add.f (q : Int) (l : List S36) (id n : Int) : Option (Int × List S36 × Int) := some (addV q l id n)
theorem sorted_of_ck {q : Int} {l : List S36} (h : ckV q l = true) : ∀ a b : Nat, a < b → b < l.length → (rd_T36 l a).f0 < (rd_T36 l b).f0 := by
  intro a b hab
  induction b with
  | zero => omega
  | succ b ih =>
    intro hb
    have h1 := (ckV_at h (b + 1) hb).2.2.2.2.2.2 (by omega)
    rw [show ((b + 1 : Nat) : Int) - 1 = (b : Int) by omega] at h1
    rcases Nat.lt_or_ge a b with h2 | h2
    · exact Int.lt_trans (ih h2 (by omega)) h1
    · have : a = b := by omega
      subst this; exact h1
theorem addL_len (q : Int) (l : List S36) (id n : Int) : (addL q l id n).length = l.length + 1 := by
  unfold addL
  have := posOf_le l id
  rw [List.length_append, List.length_take, List.length_cons, List.length_drop]; omega
set_option maxHeartbeats 16000000 in
set_option maxRecDepth 100000 in
theorem virtual_Add_ok (a0_0 : Int) (A0_1 : Option Addr) (c0_1 : Nat) (l0_1 : List (S36)) (a1 a2 : Int) (w : World) (hr0_1 : Kd.C k36 w A0_1 l0_1.length l0_1) (hc0_1 : l0_1.length ≤ c0_1)
    (hck : ckV a0_0 l0_1 = true) (hn : costV a2 ≠ 0) (hid : a1 ≠ 0) (hix : idxOf l0_1 a1 < 0) (hlen : l0_1.length < 192) :
    Calls Try.prog 31 #[.agg #[.int .i64 a0_0, .slice A0_1 l0_1.length c0_1], .int .i64 a1, .int .i64 a2] w fun e w' => ∃ v1_ : Value, e = .returned (.tuple #[.agg #[.int .i64 (settleV a0_0 (addL a0_0 l0_1 a1 a2)), v1_], .int .i64 0]) ∧ Kd.R k36 36 w' w.heap.size (fun _ => True) v1_ (addL a0_0 l0_1 a1 a2) ∧ Below w.heap.size w w' := by
  have HR := Aside0.mk hr0_1
  have HC := Aside0.mk hc0_1
  have HK := Aside0.mk hck
  have HSO := Aside0.mk (sorted_of_ck hck)
  have hnb : (costV a2 == 0) = false := by simpa using hn
  have hidb : (a1 == 0) = false := by simpa using hid
  obtain ⟨z, hz⟩ : ∃ z, idxOf l0_1 a1 = z := ⟨_, rfl⟩
  rw [hz] at hix
  have HZ := Aside0.mk hz
  have hzb : decide (0 ≤ z) = false := decide_eq_false (by omega)
  have hlb : decide (192 ≤ l0_1.length) = false := decide_eq_false (by omega)
  clear hr0_1 hc0_1 hck hn hid hz hix
  have HB : Aside0 (Below w.heap.size w ((w.alloc (.cells #[.int .i64 a0_0, .slice A0_1 l0_1.length c0_1] 29)).alloc (.cells #[.int .i64 0, .slice none 0 0] 29))) := ⟨below_alloc (below_alloc (Below.refl _ _) _) _⟩
  go_enter Try.func31, Try.ntmps31
  go_wp2_with (first | (go_at_call 34; refine (virtual_Check.calls a0_0 A0_1 c0_1 l0_1 true _ (Kd.C_below HR.out HB.out) HC.out (by unfold virtual_Check.f; rw [HK.out])).mono ?_; rintro e w1 ⟨rfl, b1⟩; obtain ⟨k1, k2, k3, k4⟩ := two_blocks w _ _ _ _ b1; have K1 := Aside0.mk k1; have K2 := Aside0.mk k2; have K4 := Aside0.mk k4; have d0 := blk_cell k1 0; have d1 := blk_cell k1 1; clear b1 k1 k2 k4) | (go_at_call 28; refine (cost_same' _ _).mono ?_; rintro e w' ⟨rfl, rfl⟩) | (go_at_call 54; refine (virtual_at.calls a0_0 A0_1 c0_1 l0_1 a1 z _ (Kd.C_below HR.out K4.out) HC.out (by unfold virtual_at.f; rw [HZ.out])).mono ?_; rintro e w2 ⟨rfl, b2⟩; have J1 := Aside0.mk (blk_below K1.out b2); have J2 := Aside0.mk (blk_below K2.out b2); have J4 := Aside0.mk (K4.out.trans (b2.mono K4.out.size)); have e0 := blk_cell J1.out 0; have e1 := blk_cell J1.out 1; clear b2 d0 d1 k3) | (go_at_call 55; refine (bsearch A0_1 c0_1 l0_1 a1 _ (Kd.C_below HR.out J4.out) (by omega) HSO.out).mono ?_; rintro e w3 ⟨⟨i, bf, rfl, i1, i2, i3⟩, b3⟩; have PI := Aside0.mk (posOf_eq a1 l0_1 i i1 i2 i3); have L1 := Aside0.mk (blk_below J1.out b3); have L2 := Aside0.mk (blk_below J2.out b3); have L4 := Aside0.mk (J4.out.trans (b3.mono J4.out.size)); have f0 := blk_cell L1.out 0; have f1 := blk_cell L1.out 1; have I1 := Aside0.mk i1; clear b3 i1 i2 i3 e0 e1))
  have HF60 : Aside0 (api_Item_60.f l0_1 = some l0_1) := ⟨by unfold api_Item_60.f; rw [if_pos (by omega)]⟩
  obtain ⟨L', hL'⟩ : ∃ L', L' = addL a0_0 l0_1 a1 a2 := ⟨_, rfl⟩
  have AD : Aside0 (L' = l0_1.take i ++ ⟨a1, a2, a0_0, false⟩ :: l0_1.drop i) := ⟨by rw [hL']; unfold addL; rw [PI.out]⟩
  have HL : Aside0 (L'.length ≤ 9223372036854775806) := ⟨by rw [hL', addL_len]; omega⟩
  have HLE := Aside0.mk hL'
  clear hL'
  have hlt3 : w.heap.size < w3.heap.size := blk_lt L1.out
  have hne3 : w.heap.size ≠ w3.heap.size := Nat.ne_of_lt hlt3
  have f0 := f0.trans (show _ = some (Value.int .i64 a0_0) from rfl)
  have f1 := f1.trans (show _ = some (Value.slice A0_1 l0_1.length c0_1) from rfl)
  have s0 : ∀ o, (w3.alloc o).cell? ⟨w.heap.size, 0, none⟩ = some (.int .i64 a0_0) := fun o => (World.cell?_alloc_lt w3 o _ hlt3).trans f0
  have s1 : ∀ o, (w3.alloc o).cell? ⟨w.heap.size, 1, none⟩ = some (.slice A0_1 l0_1.length c0_1) := fun o => (World.cell?_alloc_lt w3 o _ hlt3).trans f1
  go_region_held3 (fun w' => w'.cell? ⟨w.heap.size, 0, none⟩ = some (.int .i64 a0_0) ∧ w'.cell? ⟨w.heap.size, 1, none⟩ = some (.slice A0_1 l0_1.length c0_1)) (first | exact ⟨f0, f1⟩ | exact ⟨s0 _, s1 _⟩ | exact ⟨l0, l1⟩ | exact ⟨(World.cell?_alloc_lt w4 _ _ (blk_lt M1.out)).trans l0, (World.cell?_alloc_lt w4 _ _ (blk_lt M1.out)).trans l1⟩ | exact ⟨m0, m1⟩ | exact ⟨n0, n1⟩ | exact ⟨(far2 _ _ _ _ _ _ (Nat.ne_of_lt (Nat.lt_succ_self _))).trans n0, (far2 _ _ _ _ _ _ (Nat.ne_of_lt (Nat.lt_succ_self _))).trans n1⟩ | go_keep)
    (first | (go_at_call 60; refine (api_Item_60.calls A0_1 c0_1 l0_1 l0_1 _ (Kd.C_below HR.out (by repeat (first | with_reducible exact L4.out | with_reducible apply below_alloc | with_reducible apply below_drew1 | with_reducible apply pw_below_drewN))) HC.out HF60.out).mono ?_; rintro e w4 ⟨v, rfl, r4, b4⟩; obtain ⟨Av, cv, rfl⟩ := Kd.R_slice r4; have R4 := Aside0.mk r4; have B4 := Aside0.mk b4; have M1 := Aside0.mk (blk_below (g := w.heap.size) (o := .cells #[.int .i64 a0_0, .slice A0_1 l0_1.length c0_1] 29 (0, 0)) (by (with_reducible repeat (first | refine blk_drewN ?_ _ | refine blk_drew ?_ | refine blk_alloc ?_ _)); exact L1.out) b4); have l0 := (blk_cell M1.out 0).trans (show _ = some (Value.int .i64 a0_0) from rfl); have l1 := (blk_cell M1.out 1).trans (show _ = some (Value.slice A0_1 l0_1.length c0_1) from rfl); (try (have X4 := Aside0.mk (blk_below (g := w3.heap.size) (o := .cells #[.int .i64 a1, .int .i64 a2, .int .i64 a0_0, .bool false] 36 (0, 0)) (by exact blk_new w3.drew _) b4))); clear r4 b4) | (go_at_call 59; have RA := Aside0.mk (Kd.R_lower (base' := w3.heap.size) (Kd.R_mono (Kd.R_bound R4.out) (ok' := fun k => k ≠ w3.heap.size) (fun k hk => by have h9 := hk.2.1; simp at h9; omega)) (by simp)); refine (item_insert w3 _ (.slice Av l0_1.length cv) l0_1 (fun k => k ≠ w3.heap.size) RA.out ((below_drew1 (below_alloc (Below.refl _ w3) (.cells #[.int .i64 a1, .int .i64 a2, .int .i64 a0_0, .bool false] 36))).trans (B4.out.mono (by simp))) i I1.out (by omega) ⟨a1, a2, a0_0, false⟩ w3.heap.size X4.out (fun k hk => RA.out.1 k hk)).mono ?_; rintro e w5 ⟨v5, rfl, r5, b5⟩; rw [← AD.out] at r5; obtain ⟨A5, c5, rfl⟩ := Kd.R_slice r5; have R5 := Aside0.mk r5; have B5 := Aside0.mk b5; have M5 := Aside0.mk ((b5.block w.heap.size (blk_lt L1.out)).trans L1.out); have m0 := (blk_cell M5.out 0).trans (show _ = some (Value.int .i64 a0_0) from rfl); have m1 := (blk_cell M5.out 1).trans (show _ = some (Value.slice A0_1 l0_1.length c0_1) from rfl); clear r5 b5) | (go_at_call 59; have RA := Aside0.mk (Kd.R_alloc (Kd.R_lower (base' := w3.heap.size) (Kd.R_mono (Kd.R_elderB R4.out w4.heap.size (Nat.le_refl _)) (fun k hk => hk.2)) (Nat.le_refl _)) (.cells #[.int .i64 a1, .int .i64 a2, .int .i64 a0_0, .bool false] 36)); refine (item_insert w3 _ (.slice Av l0_1.length cv) l0_1 (fun k => k ≠ w4.heap.size) RA.out (below_alloc (below_of_drew B4.out) _) i I1.out (by omega) ⟨a1, a2, a0_0, false⟩ w4.heap.size (blk_new w4 _) (fun k hk => RA.out.1 k hk)).mono ?_; rintro e w5 ⟨v5, rfl, r5, b5⟩; rw [← AD.out] at r5; obtain ⟨A5, c5, rfl⟩ := Kd.R_slice r5; have R5 := Aside0.mk r5; have B5 := Aside0.mk b5; have M5 := Aside0.mk ((b5.block w.heap.size (blk_lt L1.out)).trans L1.out); have m0 := (blk_cell M5.out 0).trans (show _ = some (Value.int .i64 a0_0) from rfl); have m1 := (blk_cell M5.out 1).trans (show _ = some (Value.slice A0_1 l0_1.length c0_1) from rfl); clear r5 b5) | (go_at_call 58; refine (virtual_settle.calls (L'.length + 1) a0_0 _ _ L' (settleV a0_0 L') L' 0 w3 _ B5.out R5.out (settle_f _ _ HL.out)).mono ?_; rintro e w6 ⟨v6, rfl, r6, b6, _⟩; obtain ⟨A6, c6, rfl⟩ := Kd.R_slice r6; have R6 := Aside0.mk r6; have B6 := Aside0.mk b6; have M6 := Aside0.mk ((b6.block w.heap.size (blk_lt L1.out)).trans L1.out); have N6 := Aside0.mk ((b6.block (w.heap.size + 1) (blk_lt L2.out)).trans L2.out); have n0 := (blk_cell M6.out 0).trans (show _ = some (Value.int .i64 a0_0) from rfl); have n1 := (blk_cell M6.out 1).trans (show _ = some (Value.slice A0_1 l0_1.length c0_1) from rfl); have o0 := blk_cell N6.out 0; have o1 := blk_cell N6.out 1; have o2 := blk_frozen N6.out 0; have o3 := blk_frozen N6.out 1; clear r6 b6))
  all_goals
    obtain ⟨c1, c2, c3⟩ := change_res w w6 (w.heap.size + 1) (Nat.le_succ _) (settleV a0_0 L') (.slice A6 L'.length c6) w3.heap.size (blk_lt L2.out) L' L4.out.size N6.out R6.out (L4.out.trans (B6.out.mono L4.out.size))
    clear m0 m1 n0 n1 l0 l1 f0 f1 s0 s1 o0 o1 o2 o3
    go_wp2
    rw [← HLE.out]
    refine bodyPost_ret (results_ct rfl _ _ (w.heap.size + 1) 29 #[.int .i64 (settleV a0_0 L'), .slice A6 L'.length c6] (0, 0) _ rfl c1 Try.underlying29 rfl (by kernel_rfl)) rfl ?_
    exact ⟨_, rfl, c2, c3⟩
set_option maxHeartbeats 8000000 in
set_option maxRecDepth 100000 in
theorem virtual_Add_no (a0_0 : Int) (A0_1 : Option Addr) (c0_1 : Nat) (l0_1 : List (S36)) (a1 a2 : Int) (e3 : Int) (w : World) (hr0_1 : Kd.C k36 w A0_1 l0_1.length l0_1) (hc0_1 : l0_1.length ≤ c0_1)
    (hno : (ckV a0_0 l0_1 = false ∧ e3 = 1) ∨ (ckV a0_0 l0_1 = true ∧ (costV a2 = 0 ∧ e3 = 3 ∨ costV a2 ≠ 0 ∧ a1 = 0 ∧ e3 = 3)) ∨ (ckV a0_0 l0_1 = true ∧ costV a2 ≠ 0 ∧ a1 ≠ 0 ∧ 0 ≤ idxOf l0_1 a1 ∧ e3 = 5) ∨ (ckV a0_0 l0_1 = true ∧ costV a2 ≠ 0 ∧ a1 ≠ 0 ∧ idxOf l0_1 a1 < 0 ∧ 192 ≤ l0_1.length ∧ e3 = 7)) :
    Calls Try.prog 31 #[.agg #[.int .i64 a0_0, .slice A0_1 l0_1.length c0_1], .int .i64 a1, .int .i64 a2] w fun e w' => ∃ v1_ : Value, e = .returned (.tuple #[.agg #[.int .i64 0, v1_], .int .i64 e3]) ∧ Kd.R k36 36 w' w.heap.size (fun _ => True) v1_ [] ∧ Below w.heap.size w w' := by
  have HR := Aside0.mk hr0_1
  have HC := Aside0.mk hc0_1
  clear hr0_1 hc0_1
  have HB : Aside0 (Below w.heap.size w ((w.alloc (.cells #[.int .i64 a0_0, .slice A0_1 l0_1.length c0_1] 29)).alloc (.cells #[.int .i64 0, .slice none 0 0] 29))) := ⟨below_alloc (below_alloc (Below.refl _ _) _) _⟩
  rcases hno with ⟨hck, rfl⟩ | ⟨hck, h3⟩ | ⟨hck, hn, hid, hix, rfl⟩ | ⟨hck, hn, hid, hix, hlen, rfl⟩
  · have HK := Aside0.mk hck
    clear hck
    go_enter Try.func31, Try.ntmps31
    go_wp2_with (first | (go_at_call 34; refine (virtual_Check.calls a0_0 A0_1 c0_1 l0_1 false _ (Kd.C_below HR.out HB.out) HC.out (by unfold virtual_Check.f; rw [HK.out])).mono ?_; rintro e w1 ⟨rfl, b1⟩; obtain ⟨k1, k2, k3, k4⟩ := two_blocks w _ _ _ _ b1; have K1 := Aside0.mk k1; have K2 := Aside0.mk k2; have K4 := Aside0.mk k4; have d0 := blk_cell k1 0; have d1 := blk_cell k1 1; have z0 := blk_cell k2 0; have z1 := blk_cell k2 1; have z2 := blk_frozen k2 0; have z3 := blk_frozen k2 1; clear b1 k1 k2 k4))
    obtain ⟨c1, c2, c3⟩ := change_res w w1 (w.heap.size + 1) (Nat.le_succ _) 0 (.slice none 0 0) (w.heap.size + 2) (by omega) [] (by omega) K2.out (Kd.R_nil k36 36 w1 (w.heap.size + 2) (fun _ => True)) K4.out
    refine bodyPost_ret (results_ct rfl _ _ (w.heap.size + 1) 29 #[.int .i64 0, .slice none 0 0] (0, 0) _ rfl c1 Try.underlying29 rfl (by kernel_rfl)) rfl ?_
    exact ⟨_, rfl, c2, c3⟩
  · have HK := Aside0.mk hck
    clear hck
    rcases h3 with ⟨hn, rfl⟩ | ⟨hn, hid, rfl⟩
    · have hnb : (costV a2 == 0) = true := by simpa using hn
      clear hn
      go_enter Try.func31, Try.ntmps31
      go_wp2_with (first | (go_at_call 34; refine (virtual_Check.calls a0_0 A0_1 c0_1 l0_1 true _ (Kd.C_below HR.out HB.out) HC.out (by unfold virtual_Check.f; rw [HK.out])).mono ?_; rintro e w1 ⟨rfl, b1⟩; obtain ⟨k1, k2, k3, k4⟩ := two_blocks w _ _ _ _ b1; have K1 := Aside0.mk k1; have K2 := Aside0.mk k2; have K4 := Aside0.mk k4; have d0 := blk_cell k1 0; have d1 := blk_cell k1 1; have z0 := blk_cell k2 0; have z1 := blk_cell k2 1; have z2 := blk_frozen k2 0; have z3 := blk_frozen k2 1; clear b1 k1 k2 k4) | (go_at_call 28; refine (cost_same' _ _).mono ?_; rintro e w' ⟨rfl, rfl⟩))
      obtain ⟨c1, c2, c3⟩ := change_res w w1 (w.heap.size + 1) (Nat.le_succ _) 0 (.slice none 0 0) (w.heap.size + 2) (by omega) [] (by omega) K2.out (Kd.R_nil k36 36 w1 (w.heap.size + 2) (fun _ => True)) K4.out
      refine bodyPost_ret (results_ct rfl _ _ (w.heap.size + 1) 29 #[.int .i64 0, .slice none 0 0] (0, 0) _ rfl c1 Try.underlying29 rfl (by kernel_rfl)) rfl ?_
      exact ⟨_, rfl, c2, c3⟩
    · have hnb : (costV a2 == 0) = false := by simpa using hn
      have hidb : (a1 == 0) = true := by simpa using hid
      clear hn hid
      go_enter Try.func31, Try.ntmps31
      go_wp2_with (first | (go_at_call 34; refine (virtual_Check.calls a0_0 A0_1 c0_1 l0_1 true _ (Kd.C_below HR.out HB.out) HC.out (by unfold virtual_Check.f; rw [HK.out])).mono ?_; rintro e w1 ⟨rfl, b1⟩; obtain ⟨k1, k2, k3, k4⟩ := two_blocks w _ _ _ _ b1; have K1 := Aside0.mk k1; have K2 := Aside0.mk k2; have K4 := Aside0.mk k4; have d0 := blk_cell k1 0; have d1 := blk_cell k1 1; have z0 := blk_cell k2 0; have z1 := blk_cell k2 1; have z2 := blk_frozen k2 0; have z3 := blk_frozen k2 1; clear b1 k1 k2 k4) | (go_at_call 28; refine (cost_same' _ _).mono ?_; rintro e w' ⟨rfl, rfl⟩))
      obtain ⟨c1, c2, c3⟩ := change_res w w1 (w.heap.size + 1) (Nat.le_succ _) 0 (.slice none 0 0) (w.heap.size + 2) (by omega) [] (by omega) K2.out (Kd.R_nil k36 36 w1 (w.heap.size + 2) (fun _ => True)) K4.out
      refine bodyPost_ret (results_ct rfl _ _ (w.heap.size + 1) 29 #[.int .i64 0, .slice none 0 0] (0, 0) _ rfl c1 Try.underlying29 rfl (by kernel_rfl)) rfl ?_
      exact ⟨_, rfl, c2, c3⟩
  · have HK := Aside0.mk hck
    have hnb : (costV a2 == 0) = false := by simpa using hn
    have hidb : (a1 == 0) = false := by simpa using hid
    obtain ⟨z, hz⟩ : ∃ z, idxOf l0_1 a1 = z := ⟨_, rfl⟩
    rw [hz] at hix
    have HZ := Aside0.mk hz
    have hzb : decide (0 ≤ z) = true := decide_eq_true hix
    clear hck hn hid hz hix
    go_enter Try.func31, Try.ntmps31
    go_wp2_with (first | (go_at_call 34; refine (virtual_Check.calls a0_0 A0_1 c0_1 l0_1 true _ (Kd.C_below HR.out HB.out) HC.out (by unfold virtual_Check.f; rw [HK.out])).mono ?_; rintro e w1 ⟨rfl, b1⟩; obtain ⟨k1, k2, k3, k4⟩ := two_blocks w _ _ _ _ b1; have K1 := Aside0.mk k1; have K2 := Aside0.mk k2; have K4 := Aside0.mk k4; have d0 := blk_cell k1 0; have d1 := blk_cell k1 1; have z0 := blk_cell k2 0; have z1 := blk_cell k2 1; have z2 := blk_frozen k2 0; have z3 := blk_frozen k2 1; clear b1 k1 k2 k4) | (go_at_call 28; refine (cost_same' _ _).mono ?_; rintro e w' ⟨rfl, rfl⟩) | (go_at_call 54; refine (virtual_at.calls a0_0 A0_1 c0_1 l0_1 a1 z _ (Kd.C_below HR.out K4.out) HC.out (by unfold virtual_at.f; rw [HZ.out])).mono ?_; rintro e w2 ⟨rfl, b2⟩; have J1 := Aside0.mk (blk_below K1.out b2); have J2 := Aside0.mk (blk_below K2.out b2); have J4 := Aside0.mk (K4.out.trans (b2.mono K4.out.size)); have e0 := blk_cell J1.out 0; have e1 := blk_cell J1.out 1; have y0 := blk_cell J2.out 0; have y1 := blk_cell J2.out 1; have y2 := blk_frozen J2.out 0; have y3 := blk_frozen J2.out 1; clear b2 d0 d1 k3 z0 z1 z2 z3))
    obtain ⟨c1, c2, c3⟩ := change_res w w2 (w.heap.size + 1) (Nat.le_succ _) 0 (.slice none 0 0) (w.heap.size + 2) (by omega) [] (by omega) J2.out (Kd.R_nil k36 36 w2 (w.heap.size + 2) (fun _ => True)) J4.out
    refine bodyPost_ret (results_ct rfl _ _ (w.heap.size + 1) 29 #[.int .i64 0, .slice none 0 0] (0, 0) _ rfl c1 Try.underlying29 rfl (by kernel_rfl)) rfl ?_
    exact ⟨_, rfl, c2, c3⟩
  · have HK := Aside0.mk hck
    have hnb : (costV a2 == 0) = false := by simpa using hn
    have hidb : (a1 == 0) = false := by simpa using hid
    obtain ⟨z, hz⟩ : ∃ z, idxOf l0_1 a1 = z := ⟨_, rfl⟩
    rw [hz] at hix
    have HZ := Aside0.mk hz
    have hzb : decide (0 ≤ z) = false := decide_eq_false (by omega)
    have hlb : decide (192 ≤ l0_1.length) = true := decide_eq_true hlen
    have hlz : (192 : Int) ≤ (l0_1.length : Int) := by omega
    clear hck hn hid hz hix
    go_enter Try.func31, Try.ntmps31
    go_wp2_with (first | (go_at_call 34; refine (virtual_Check.calls a0_0 A0_1 c0_1 l0_1 true _ (Kd.C_below HR.out HB.out) HC.out (by unfold virtual_Check.f; rw [HK.out])).mono ?_; rintro e w1 ⟨rfl, b1⟩; obtain ⟨k1, k2, k3, k4⟩ := two_blocks w _ _ _ _ b1; have K1 := Aside0.mk k1; have K2 := Aside0.mk k2; have K4 := Aside0.mk k4; have d0 := blk_cell k1 0; have d1 := blk_cell k1 1; have z0 := blk_cell k2 0; have z1 := blk_cell k2 1; have z2 := blk_frozen k2 0; have z3 := blk_frozen k2 1; clear b1 k1 k2 k4) | (go_at_call 28; refine (cost_same' _ _).mono ?_; rintro e w' ⟨rfl, rfl⟩) | (go_at_call 54; refine (virtual_at.calls a0_0 A0_1 c0_1 l0_1 a1 z _ (Kd.C_below HR.out K4.out) HC.out (by unfold virtual_at.f; rw [HZ.out])).mono ?_; rintro e w2 ⟨rfl, b2⟩; have J1 := Aside0.mk (blk_below K1.out b2); have J2 := Aside0.mk (blk_below K2.out b2); have J4 := Aside0.mk (K4.out.trans (b2.mono K4.out.size)); have e0 := blk_cell J1.out 0; have e1 := blk_cell J1.out 1; have y0 := blk_cell J2.out 0; have y1 := blk_cell J2.out 1; have y2 := blk_frozen J2.out 0; have y3 := blk_frozen J2.out 1; clear b2 d0 d1 k3 z0 z1 z2 z3))
    obtain ⟨c1, c2, c3⟩ := change_res w w2 (w.heap.size + 1) (Nat.le_succ _) 0 (.slice none 0 0) (w.heap.size + 2) (by omega) [] (by omega) J2.out (Kd.R_nil k36 36 w2 (w.heap.size + 2) (fun _ => True)) J4.out
    refine bodyPost_ret (results_ct rfl _ _ (w.heap.size + 1) 29 #[.int .i64 0, .slice none 0 0] (0, 0) _ rfl c1 Try.underlying29 rfl (by kernel_rfl)) rfl ?_
    exact ⟨_, rfl, c2, c3⟩
theorem virtual_Add.calls (a0_0 : Int) (A0_1 : Option Addr) (c0_1 : Nat) (l0_1 : List (S36)) (a1 : Int) (a2 : Int) (r1 : Int) (r2 : List (S36)) (r3 : Int) (w : World) (hr0_1 : Kd.C k36 w A0_1 l0_1.length l0_1) (hc0_1 : l0_1.length ≤ c0_1) (h : virtual_Add.f a0_0 l0_1 a1 a2 = some (r1, r2, r3)) :
    Calls Try.prog 31 #[.agg #[.int .i64 a0_0, .slice A0_1 l0_1.length c0_1], .int .i64 a1, .int .i64 a2] w fun e w' => ∃ v1_ : Value, e = .returned (.tuple #[.agg #[.int .i64 r1, v1_], .int .i64 r3]) ∧ Kd.R k36 36 w' w.heap.size (fun _ => True) v1_ r2 ∧ Below w.heap.size w w' := by
  have h := Option.some.inj h
  unfold addV at h
  by_cases hck : ckV a0_0 l0_1 = true
  · rw [if_pos hck] at h
    by_cases hn : costV a2 = 0 ∨ a1 = 0
    · rw [if_pos hn] at h
      simp only [Prod.mk.injEq] at h
      obtain ⟨rfl, rfl, rfl⟩ := h
      by_cases hn0 : costV a2 = 0
      · exact virtual_Add_no a0_0 A0_1 c0_1 l0_1 a1 a2 3 w hr0_1 hc0_1 (.inr (.inl ⟨hck, .inl ⟨hn0, rfl⟩⟩))
      · exact virtual_Add_no a0_0 A0_1 c0_1 l0_1 a1 a2 3 w hr0_1 hc0_1 (.inr (.inl ⟨hck, .inr ⟨hn0, hn.resolve_left hn0, rfl⟩⟩))
    · rw [if_neg hn] at h
      have hn1 : costV a2 ≠ 0 := fun e => hn (.inl e)
      have hn2 : a1 ≠ 0 := fun e => hn (.inr e)
      by_cases hix : 0 ≤ idxOf l0_1 a1
      · rw [if_pos hix] at h
        simp only [Prod.mk.injEq] at h
        obtain ⟨rfl, rfl, rfl⟩ := h
        exact virtual_Add_no a0_0 A0_1 c0_1 l0_1 a1 a2 5 w hr0_1 hc0_1 (.inr (.inr (.inl ⟨hck, hn1, hn2, hix, rfl⟩)))
      · rw [if_neg hix] at h
        by_cases hlen : 192 ≤ l0_1.length
        · rw [if_pos hlen] at h
          simp only [Prod.mk.injEq] at h
          obtain ⟨rfl, rfl, rfl⟩ := h
          exact virtual_Add_no a0_0 A0_1 c0_1 l0_1 a1 a2 7 w hr0_1 hc0_1 (.inr (.inr (.inr ⟨hck, hn1, hn2, by omega, hlen, rfl⟩)))
        · rw [if_neg hlen] at h
          simp only [Prod.mk.injEq] at h
          obtain ⟨rfl, rfl, rfl⟩ := h
          exact virtual_Add_ok a0_0 A0_1 c0_1 l0_1 a1 a2 w hr0_1 hc0_1 hck hn1 hn2 (by omega) (by omega)
  · rw [if_neg hck] at h
    simp only [Prod.mk.injEq] at h
    obtain ⟨rfl, rfl, rfl⟩ := h
    exact virtual_Add_no a0_0 A0_1 c0_1 l0_1 a1 a2 1 w hr0_1 hc0_1 (.inl ⟨by simpa using hck, rfl⟩)

end Go.Proofs.Ytancnonigponaaa.PV
