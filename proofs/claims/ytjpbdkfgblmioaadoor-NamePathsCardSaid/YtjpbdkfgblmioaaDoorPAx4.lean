/- Contracts of functions of the program and of its references, over the translation, for values that can be read as data: each call comes to what a Lean function says. Written by the kit's printer and a program of this session's, with hand-made contracts spliced in. -/
import Derived.Test.YtjpbdkfgblmioaaDoorPAx0
namespace Go.Proofs.YtjpbdkfgblmioaaDoor.PA
open Go.RowKit Go.Proofs.YtjpbdkfgblmioaaDoorW.PrintWords Go.Proofs.YtjpbdkfgblmioaaDoorW.PrintLast Go.Proofs.YtjpbdkfgblmioaaDoorW.PrintMore
set_option linter.unusedVariables false
set_option linter.unusedSimpArgs false

/-! ### strings_Split: function 25 (by hand) -/
/-- The parts of a text between the places of a byte. -/
def sp (c : UInt8) : List UInt8 → List (List UInt8)
  | [] => [[]]
  | b :: l => if b = c then [] :: sp c l else match sp c l with
    | w :: ws => (b :: w) :: ws
    | [] => [[b]]
theorem splitK_sp (c : UInt8) : ∀ l : List UInt8, Lib.splitK [c] 0 (l.count c) l = sp c l
  | [] => rfl
  | b :: l => by
    have ih := splitK_sp c l
    unfold sp
    by_cases h : b = c
    · subst h
      rw [if_pos rfl, List.count_cons_self, ← ih]
      have hix : Lib.index (b :: l) [b] = 0 := by rw [Lib.index]; simp [List.isPrefixOf]
      show (if Lib.index (b :: l) [b] == -1 then _ else _) = _
      rw [hix]
      simp
    · rw [if_neg h, List.count_cons_of_ne (by simpa using h)]
      have hp : ([c] : List UInt8).isPrefixOf (b :: l) = false := by simp [List.isPrefixOf, Ne.symm h]
      have hix : Lib.index (b :: l) [c] = if Lib.index l [c] == -1 then -1 else Lib.index l [c] + 1 := by rw [Lib.index, hp]; simp
      rw [← ih]
      generalize l.count c = k
      cases k with
      | zero => rfl
      | succ k =>
        by_cases hm : Lib.index l [c] = -1
        · have e1 : Lib.splitK [c] 0 (k + 1) (b :: l) = [b :: l] := by
            show (if Lib.index (b :: l) [c] == -1 then _ else _) = _
            rw [hix, hm]; simp
          have e2 : Lib.splitK [c] 0 (k + 1) l = [l] := by
            show (if Lib.index l [c] == -1 then _ else _) = _
            rw [hm]; simp
          rw [e1, e2]
        · have hge := Lib.index_ge l [c]
          obtain ⟨j, hj⟩ : ∃ j : Nat, Lib.index l [c] = j := ⟨(Lib.index l [c]).toNat, by omega⟩
          have e1 : Lib.splitK [c] 0 (k + 1) (b :: l) = (b :: l.take j) :: Lib.splitK [c] 0 k (l.drop (j + 1)) := by
            have hx : Lib.index (b :: l) [c] = ((j + 1 : Nat) : Int) := by rw [hix, if_neg (fun e => hm (beq_iff_eq.1 e)), hj]; omega
            show (if Lib.index (b :: l) [c] == -1 then _ else _) = _
            rw [hx, if_neg (by rw [beq_iff_eq]; omega)]
            simp
          have e2 : Lib.splitK [c] 0 (k + 1) l = l.take j :: Lib.splitK [c] 0 k (l.drop (j + 1)) := by
            show (if Lib.index l [c] == -1 then _ else _) = _
            rw [hj, if_neg (by rw [beq_iff_eq]; omega)]
            simp
          rw [e1, e2]
def mkB (l : List UInt8) : ByteArray := ⟨l.toArray⟩
def strings_Split.f (s sep : ByteArray) : Option (List ByteArray) :=
  match sep.data.toList with
  | [c] => if s.size < 4294967281 then some ((sp c s.data.toList).map mkB) else none
  | _ => none
theorem splitB_sp (c : UInt8) (s : ByteArray) : Lib.splitB ⟨#[c]⟩ 0 (Lib.countB s ⟨#[c]⟩) s = (sp c s.data.toList).map mkB := by
  have e1 : Lib.countB s ⟨#[c]⟩ = s.data.toList.count c := Lib.count_one c s.data.toList
  have e2 := Lib.splitB_data ⟨#[c]⟩ 0 (Lib.countB s ⟨#[c]⟩) s
  rw [e1] at e2 ⊢
  have e3 := splitK_sp c s.data.toList
  show _ = _
  rw [← e3, show ([c] : List UInt8) = (⟨#[c]⟩ : ByteArray).data.toList from rfl, ← e2, List.map_map]
  conv => lhs; rw [← List.map_id (Lib.splitB ⟨#[c]⟩ 0 (List.count c s.data.toList) s)]
  apply List.map_congr_left
  intro x _
  rfl
set_option maxHeartbeats 2000000 in
theorem strings_Split.calls (a0 : ByteArray) (a1 : ByteArray) (r : List ByteArray) (w : World) (h : strings_Split.f a0 a1 = some r) :
    Calls Tryd.prog 25 #[.string a0, .string a1] w fun e w' => ∃ v0_ : Value, e = .returned v0_ ∧ Kd.R Kd.string 9 w' w.heap.size (fun _ => True) v0_ r ∧ Below w.heap.size w w' := by
  unfold strings_Split.f at h
  split at h
  case h_2 => cases h
  case h_1 c hc =>
  split at h
  case isFalse => cases h
  case isTrue hs =>
  obtain rfl : a1 = ⟨#[c]⟩ := by
    obtain ⟨d⟩ := a1
    congr 1
    exact Array.toList_inj.1 hc
  have hr := Option.some.inj h
  rw [← splitB_sp] at hr
  have one : ∀ x : ByteArray, (Lib.indexB x ⟨#[c]⟩) = Lib.indexByte x.data.toList c := fun x => Lib.index_one x.data.toList c
  have cnt : (Lib.countB a0 ⟨#[c]⟩ : Int) = Lib.countByte a0.data.toList c := by
    show ((Lib.count a0.data.toList [c] : Nat) : Int) = _
    rw [Lib.count_one]; rfl
  have z1 : 1 ≤ (⟨#[c]⟩ : ByteArray).size := Nat.le_refl 1
  have hlen := Lib.splitB_all ⟨#[c]⟩ z1 0 _ a0 rfl
  have hle := Lib.countB_le ⟨#[c]⟩ z1 a0.size a0 (Nat.le_refl _)
  have hG := Any.strings_genSplit_core Tryd.lays221 (by kernel_rfl) a0 ⟨#[c]⟩ 0 (-1) (Lib.countB a0 ⟨#[c]⟩ + 1) w hs z1 (Nat.zero_le _)
    (fun x C hx => by rw [one]; exact Tryd.strings_Index_one x c _)
    (by rw [cnt]; exact Tryd.strings_Count_one a0 c w) (by decide) (by decide) (by rw [if_pos (by decide)]; omega)
  rw [Nat.add_sub_cancel, hr] at hG
  rw [hr] at hlen
  have hcells : Lib.cellsOf r (Lib.countB a0 ⟨#[c]⟩ + 1) = (r.map Value.string).toArray := by rw [← hlen]; exact Lib.cellsOf_full _
  rw [hcells, hlen] at hG
  have hfin : ∀ w1 : World, w1 = w.alloc (.cells (r.map Value.string).toArray 9) → Kd.R Kd.string 9 w1 w.heap.size (fun _ => True) (.slice (some ⟨w.heap.size, 0, none⟩) (Lib.countB a0 ⟨#[c]⟩ + 1) (Lib.countB a0 ⟨#[c]⟩ + 1)) r ∧ Below w.heap.size w w1 := by
    rintro w1 rfl
    refine ⟨Kd.R_of_own ?_ (fun _ _ => trivial), (Below.refl _ w).alloc (Nat.le_refl _) _⟩
    rw [← hlen]
    have := World.ownsRow_lit (base := w.heap.size) (e := 9) (size := 1) w (r.map Value.string).toArray r.length (Nat.le_refl _) (by rw [hlen]; show _ ≤ 9223372036854775807; omega) (by simp)
    simpa [encs] using this
  have HF := Aside0.mk hfin
  clear hfin hcells hr h hc cnt one
  generalize Lib.countB a0 ⟨#[c]⟩ + 1 = n at hG HF
  go_enter Tryd.func25, Tryd.ntmps25
  go_wp2_with (go_at_call 32; refine hG.mono ?_; rintro e w' ⟨rfl, rfl⟩)
  go_ret
  exact ⟨_, rfl, (HF.out _ rfl).1, (HF.out _ rfl).2⟩

end Go.Proofs.YtjpbdkfgblmioaaDoor.PA
