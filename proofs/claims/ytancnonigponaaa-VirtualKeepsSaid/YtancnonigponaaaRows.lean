/-
  No cell of these rows narrows 'for every input' (looked for: loops, veiled, ifaces, maps, wideKeys, modest, calm, conditions, laid).
  DERIVED. THE GIVEN ROWS OF THIS SEAT. 7 by the template 'for every input the law returns true; each argument reads behind the call as it read before'; 0 by the template 'total and deterministic' (their statements: YtancnonigponaaaTotals.lean).
  GIVEN WITH THE SEED: the statements are not yours to turn. If you find one false, say at which input.
  Laid BY PROGRAM, IN A SANDBOX (cutbox-rows.mjs): the forced cells as the released guide's own fill.sh prints them over the translation c232ee0d99edbe58… (all of the seat's roots in one cut). By AI agents, Wed Nov 11 2026. No macro, syntax, notation, axiom, sorry.
-/
import Derived.Test.YtancnonigponaaaChecked
import GoSem.Claim
import GoSem.ClaimJoined
import GoSem.ClaimMapViews
import Derived.JoinedTies
import Derived.KernelRfl
namespace Go.Proofs.Ytancnonigponaaa
/- THE CELL 'sum', in the pinned program and in every row, IS THE sha256 OF THE DUMP (.gsa) THAT YtancnonigponaaaProg.lean LOADS. Nothing in Lean hashes anything: it is a label: what it is worth is what the hold of that sum in a sandbox is worth. -/
noncomputable def Try.pinned : Pinned := { name := "ytancnonigponaaa", sum := "c232ee0d99edbe5864c7dd854c7efea7d97b16970fadc0036aa3eb96a6ec77d4", checked := Try.checked }
namespace Rows
def none {H : Type} : Left H := { results := [], args := [] }

/-- 'groupcontrollaw15.VirtualWakes': WHATEVER THE INPUT: true; the input reads as it did. -/
def virtualWakesSpec : ChangeSpec := { name := "virtualWakes", fn := fun _ => fun
  | [d] => { results := [.lit (.bool true)], args := [d] }
  | _ => none }
def virtualWakesRow : OpenClaim := { program := "ytancnonigponaaa", sum := "c232ee0d99edbe5864c7dd854c7efea7d97b16970fadc0036aa3eb96a6ec77d4", func := "groupcontrol/groupcontrollaw15.VirtualWakes", spec := "virtualWakes", inPlace := ["slices.overlaps[groupcontrol/api.Item]"], unfollowed := true, recurses := true, apart := false }
def VirtualWakesSaid : Prop := virtualWakesRow.holds Try.pinned (OpenSpec.ofChange virtualWakesSpec)

/-- ITS FALSE NEIGHBOUR: 'it returns false'. Refute it at one input. -/
def virtualWakesWrong : ChangeSpec := { name := "virtualWakes", fn := fun _ => fun
  | [d] => { results := [.lit (.bool false)], args := [d] }
  | _ => none }
def VirtualWakesWrongFalsely : Prop := virtualWakesRow.holds Try.pinned (OpenSpec.ofChange virtualWakesWrong)

/-- 'groupcontrollaw15.VirtualShares': WHATEVER THE INPUT: true; the input reads as it did. -/
def virtualSharesSpec : ChangeSpec := { name := "virtualShares", fn := fun _ => fun
  | [d1, d2] => { results := [.lit (.bool true)], args := [d1, d2] }
  | _ => none }
def virtualSharesRow : OpenClaim := { program := "ytancnonigponaaa", sum := "c232ee0d99edbe5864c7dd854c7efea7d97b16970fadc0036aa3eb96a6ec77d4", func := "groupcontrol/groupcontrollaw15.VirtualShares", spec := "virtualShares", inPlace := ["slices.overlaps[groupcontrol/api.Item]"], unfollowed := true, recurses := true, apart := false }
def VirtualSharesSaid : Prop := virtualSharesRow.holds Try.pinned (OpenSpec.ofChange virtualSharesSpec)

/-- ITS FALSE NEIGHBOUR: 'it returns false'. Refute it at one input. -/
def virtualSharesWrong : ChangeSpec := { name := "virtualShares", fn := fun _ => fun
  | [d1, d2] => { results := [.lit (.bool false)], args := [d1, d2] }
  | _ => none }
def VirtualSharesWrongFalsely : Prop := virtualSharesRow.holds Try.pinned (OpenSpec.ofChange virtualSharesWrong)

/-- 'groupcontrollaw15.VirtualQuiet': WHATEVER THE INPUT: true; the input reads as it did. -/
def virtualQuietSpec : ChangeSpec := { name := "virtualQuiet", fn := fun _ => fun
  | [d] => { results := [.lit (.bool true)], args := [d] }
  | _ => none }
def virtualQuietRow : OpenClaim := { program := "ytancnonigponaaa", sum := "c232ee0d99edbe5864c7dd854c7efea7d97b16970fadc0036aa3eb96a6ec77d4", func := "groupcontrol/groupcontrollaw15.VirtualQuiet", spec := "virtualQuiet", inPlace := ["slices.overlaps[groupcontrol/api.Item]"], unfollowed := true, recurses := true, apart := false }
def VirtualQuietSaid : Prop := virtualQuietRow.holds Try.pinned (OpenSpec.ofChange virtualQuietSpec)

/-- ITS FALSE NEIGHBOUR: 'it returns false'. Refute it at one input. -/
def virtualQuietWrong : ChangeSpec := { name := "virtualQuiet", fn := fun _ => fun
  | [d] => { results := [.lit (.bool false)], args := [d] }
  | _ => none }
def VirtualQuietWrongFalsely : Prop := virtualQuietRow.holds Try.pinned (OpenSpec.ofChange virtualQuietWrong)

/-- 'groupcontrollaw15.VirtualLag': WHATEVER THE INPUT: true; the input reads as it did. -/
def virtualLagSpec : ChangeSpec := { name := "virtualLag", fn := fun _ => fun
  | [d] => { results := [.lit (.bool true)], args := [d] }
  | _ => none }
def virtualLagRow : OpenClaim := { program := "ytancnonigponaaa", sum := "c232ee0d99edbe5864c7dd854c7efea7d97b16970fadc0036aa3eb96a6ec77d4", func := "groupcontrol/groupcontrollaw15.VirtualLag", spec := "virtualLag", inPlace := ["slices.overlaps[groupcontrol/api.Item]"], unfollowed := true, recurses := true, apart := false }
def VirtualLagSaid : Prop := virtualLagRow.holds Try.pinned (OpenSpec.ofChange virtualLagSpec)

/-- ITS FALSE NEIGHBOUR: 'it returns false'. Refute it at one input. -/
def virtualLagWrong : ChangeSpec := { name := "virtualLag", fn := fun _ => fun
  | [d] => { results := [.lit (.bool false)], args := [d] }
  | _ => none }
def VirtualLagWrongFalsely : Prop := virtualLagRow.holds Try.pinned (OpenSpec.ofChange virtualLagWrong)

/-- 'groupcontrollaw15.VirtualCosts': WHATEVER THE INPUT: true; the input reads as it did. -/
def virtualCostsSpec : ChangeSpec := { name := "virtualCosts", fn := fun _ => fun
  | [d1, d2, d3] => { results := [.lit (.bool true)], args := [d1, d2, d3] }
  | _ => none }
def virtualCostsRow : OpenClaim := { program := "ytancnonigponaaa", sum := "c232ee0d99edbe5864c7dd854c7efea7d97b16970fadc0036aa3eb96a6ec77d4", func := "groupcontrol/groupcontrollaw15.VirtualCosts", spec := "virtualCosts", inPlace := ["slices.overlaps[groupcontrol/api.Item]"], unfollowed := true, recurses := true, apart := false }
def VirtualCostsSaid : Prop := virtualCostsRow.holds Try.pinned (OpenSpec.ofChange virtualCostsSpec)

/-- ITS FALSE NEIGHBOUR: 'it returns false'. Refute it at one input. -/
def virtualCostsWrong : ChangeSpec := { name := "virtualCosts", fn := fun _ => fun
  | [d1, d2, d3] => { results := [.lit (.bool false)], args := [d1, d2, d3] }
  | _ => none }
def VirtualCostsWrongFalsely : Prop := virtualCostsRow.holds Try.pinned (OpenSpec.ofChange virtualCostsWrong)

/-- 'groupcontrollaw15.VirtualKeeps': WHATEVER THE INPUT: true; the input reads as it did. -/
def virtualKeepsSpec : ChangeSpec := { name := "virtualKeeps", fn := fun _ => fun
  | [d] => { results := [.lit (.bool true)], args := [d] }
  | _ => none }
def virtualKeepsRow : OpenClaim := { program := "ytancnonigponaaa", sum := "c232ee0d99edbe5864c7dd854c7efea7d97b16970fadc0036aa3eb96a6ec77d4", func := "groupcontrol/groupcontrollaw15.VirtualKeeps", spec := "virtualKeeps", inPlace := ["slices.overlaps[groupcontrol/api.Item]"], unfollowed := true, recurses := true, apart := false }
def VirtualKeepsSaid : Prop := virtualKeepsRow.holds Try.pinned (OpenSpec.ofChange virtualKeepsSpec)

/-- ITS FALSE NEIGHBOUR: 'it returns false'. Refute it at one input. -/
def virtualKeepsWrong : ChangeSpec := { name := "virtualKeeps", fn := fun _ => fun
  | [d] => { results := [.lit (.bool false)], args := [d] }
  | _ => none }
def VirtualKeepsWrongFalsely : Prop := virtualKeepsRow.holds Try.pinned (OpenSpec.ofChange virtualKeepsWrong)

/-- 'groupcontrollaw15.VirtualSteps': WHATEVER THE INPUT: true; the input reads as it did. -/
def virtualStepsSpec : ChangeSpec := { name := "virtualSteps", fn := fun _ => fun
  | [d1, d2, d3, d4] => { results := [.lit (.bool true)], args := [d1, d2, d3, d4] }
  | _ => none }
def virtualStepsRow : OpenClaim := { program := "ytancnonigponaaa", sum := "c232ee0d99edbe5864c7dd854c7efea7d97b16970fadc0036aa3eb96a6ec77d4", func := "groupcontrol/groupcontrollaw15.VirtualSteps", spec := "virtualSteps", inPlace := ["slices.overlaps[groupcontrol/api.Item]"], unfollowed := true, recurses := true, apart := false }
def VirtualStepsSaid : Prop := virtualStepsRow.holds Try.pinned (OpenSpec.ofChange virtualStepsSpec)

/-- ITS FALSE NEIGHBOUR: 'it returns false'. Refute it at one input. -/
def virtualStepsWrong : ChangeSpec := { name := "virtualSteps", fn := fun _ => fun
  | [d1, d2, d3, d4] => { results := [.lit (.bool false)], args := [d1, d2, d3, d4] }
  | _ => none }
def VirtualStepsWrongFalsely : Prop := virtualStepsRow.holds Try.pinned (OpenSpec.ofChange virtualStepsWrong)

/- THE SECOND FORM. 'bulk': how many values and letters a reading holds, each counted each time it is reached (what is shared counts as often as it is met; a slice's spare places count too). A statement '..UptoSaid' is the law's where the arguments, and the package variables that the reading takes, are together of bulk at most 1048576: NARROWER than '..Said'. Prove '..Said' where nothing that the law and all that it calls make is longer than what came in: it says more and counts as full. Else prove '..UptoSaid'. A law counts once. -/
mutual
def uptoBulk {H : Type} : DataW H → Nat
  | .lit (.string bytes) => bytes.length + 1
  | .lit _ => 1
  | .nil => 1
  | .ptr d => uptoBulk d + 1
  | .slice elems spare => uptoBulkAll elems + uptoBulkAll spare + 1
  | .agg parts => uptoBulkAll parts + 1
  | .iface _ d => uptoBulk d + 1
  | .map entries => uptoBulkEntries entries + 1
  | .held _ => 1
def uptoBulkAll {H : Type} : List (DataW H) → Nat
  | [] => 0
  | d :: r => uptoBulk d + uptoBulkAll r
def uptoBulkEntries {H : Type} : List (Lit × DataW H) → Nat
  | [] => 0
  | x :: r => uptoBulkEntry x + uptoBulkEntries r
def uptoBulkEntry {H : Type} : Lit × DataW H → Nat
  | (.string bytes, d) => bytes.length + uptoBulk d + 1
  | (_, d) => uptoBulk d + 1
 end
def uptoSmall : (H : Type) → List (DataW H) → Bool := fun _ ds => decide (uptoBulkAll ds ≤ 1048576)
def OpenSpec.upto (s : _root_.Go.ChangeSpec) : _root_.Go.OpenSpec := { _root_.Go.OpenSpec.ofChange s with cond := some uptoSmall }

/-- 'groupcontrollaw15.VirtualWakes', WHERE WHAT IT READS IS OF BULK AT MOST 1048576: true; the input reads as it did. -/
def virtualWakesUptoRow : OpenClaim := { program := "ytancnonigponaaa", sum := "c232ee0d99edbe5864c7dd854c7efea7d97b16970fadc0036aa3eb96a6ec77d4", func := "groupcontrol/groupcontrollaw15.VirtualWakes", spec := "virtualWakes", inPlace := ["slices.overlaps[groupcontrol/api.Item]"], unfollowed := true, recurses := true, apart := false, narrowed := true }
def VirtualWakesUptoSaid : Prop := virtualWakesUptoRow.holds Try.pinned (OpenSpec.upto virtualWakesSpec)

/-- 'groupcontrollaw15.VirtualShares', WHERE WHAT IT READS IS OF BULK AT MOST 1048576: true; the input reads as it did. -/
def virtualSharesUptoRow : OpenClaim := { program := "ytancnonigponaaa", sum := "c232ee0d99edbe5864c7dd854c7efea7d97b16970fadc0036aa3eb96a6ec77d4", func := "groupcontrol/groupcontrollaw15.VirtualShares", spec := "virtualShares", inPlace := ["slices.overlaps[groupcontrol/api.Item]"], unfollowed := true, recurses := true, apart := false, narrowed := true }
def VirtualSharesUptoSaid : Prop := virtualSharesUptoRow.holds Try.pinned (OpenSpec.upto virtualSharesSpec)

/-- 'groupcontrollaw15.VirtualQuiet', WHERE WHAT IT READS IS OF BULK AT MOST 1048576: true; the input reads as it did. -/
def virtualQuietUptoRow : OpenClaim := { program := "ytancnonigponaaa", sum := "c232ee0d99edbe5864c7dd854c7efea7d97b16970fadc0036aa3eb96a6ec77d4", func := "groupcontrol/groupcontrollaw15.VirtualQuiet", spec := "virtualQuiet", inPlace := ["slices.overlaps[groupcontrol/api.Item]"], unfollowed := true, recurses := true, apart := false, narrowed := true }
def VirtualQuietUptoSaid : Prop := virtualQuietUptoRow.holds Try.pinned (OpenSpec.upto virtualQuietSpec)

/-- 'groupcontrollaw15.VirtualLag', WHERE WHAT IT READS IS OF BULK AT MOST 1048576: true; the input reads as it did. -/
def virtualLagUptoRow : OpenClaim := { program := "ytancnonigponaaa", sum := "c232ee0d99edbe5864c7dd854c7efea7d97b16970fadc0036aa3eb96a6ec77d4", func := "groupcontrol/groupcontrollaw15.VirtualLag", spec := "virtualLag", inPlace := ["slices.overlaps[groupcontrol/api.Item]"], unfollowed := true, recurses := true, apart := false, narrowed := true }
def VirtualLagUptoSaid : Prop := virtualLagUptoRow.holds Try.pinned (OpenSpec.upto virtualLagSpec)

/-- 'groupcontrollaw15.VirtualCosts', WHERE WHAT IT READS IS OF BULK AT MOST 1048576: true; the input reads as it did. -/
def virtualCostsUptoRow : OpenClaim := { program := "ytancnonigponaaa", sum := "c232ee0d99edbe5864c7dd854c7efea7d97b16970fadc0036aa3eb96a6ec77d4", func := "groupcontrol/groupcontrollaw15.VirtualCosts", spec := "virtualCosts", inPlace := ["slices.overlaps[groupcontrol/api.Item]"], unfollowed := true, recurses := true, apart := false, narrowed := true }
def VirtualCostsUptoSaid : Prop := virtualCostsUptoRow.holds Try.pinned (OpenSpec.upto virtualCostsSpec)

/-- 'groupcontrollaw15.VirtualKeeps', WHERE WHAT IT READS IS OF BULK AT MOST 1048576: true; the input reads as it did. -/
def virtualKeepsUptoRow : OpenClaim := { program := "ytancnonigponaaa", sum := "c232ee0d99edbe5864c7dd854c7efea7d97b16970fadc0036aa3eb96a6ec77d4", func := "groupcontrol/groupcontrollaw15.VirtualKeeps", spec := "virtualKeeps", inPlace := ["slices.overlaps[groupcontrol/api.Item]"], unfollowed := true, recurses := true, apart := false, narrowed := true }
def VirtualKeepsUptoSaid : Prop := virtualKeepsUptoRow.holds Try.pinned (OpenSpec.upto virtualKeepsSpec)

/-- 'groupcontrollaw15.VirtualSteps', WHERE WHAT IT READS IS OF BULK AT MOST 1048576: true; the input reads as it did. -/
def virtualStepsUptoRow : OpenClaim := { program := "ytancnonigponaaa", sum := "c232ee0d99edbe5864c7dd854c7efea7d97b16970fadc0036aa3eb96a6ec77d4", func := "groupcontrol/groupcontrollaw15.VirtualSteps", spec := "virtualSteps", inPlace := ["slices.overlaps[groupcontrol/api.Item]"], unfollowed := true, recurses := true, apart := false, narrowed := true }
def VirtualStepsUptoSaid : Prop := virtualStepsUptoRow.holds Try.pinned (OpenSpec.upto virtualStepsSpec)

end Rows
end Go.Proofs.Ytancnonigponaaa
