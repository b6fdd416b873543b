/- Contracts of functions of the program and of its references, over the translation, for values that can be read as data: each call comes to what a Lean function says. Written by the kit's printer and a program of this session's, with hand-made contracts spliced in. -/
import Derived.Test.YtjpbdkfgblmioaaDoorProg
import Derived.Below
import Derived.Deep.Draws
import Derived.Deep.AppendLies
import Derived.Maps.AppendAt
import Derived.OwnWalk
import Derived.Laws.BytesArg
import Derived.Laws.MakeOwn
import Derived.Laws.OwnMore
import Derived.Deep.OwnRows
import Derived.Tactics
import Derived.Lib.ConvBytes
import Derived.Laws.Slices
import Derived.WalkKit
import Derived.KernelRfl
import Derived.RowKit3
import Derived.Deep.LoopGhost
import Derived.Deep.QuietTactic
import Derived.BigQuiet
import Derived.WideLaws
import Derived.Deep.DeepCutAuto
import Derived.Deep.CutBlock
import Derived.Deep.RegionHeld3
import Derived.Laws.Rows
import Derived.Lib.AppendStr
import Derived.ArgAppend
import Derived.Laws.IdiomCopy
import Derived.OrdersHeld
import Derived.Laws.BitsLemmas
import Derived.RowKit
import Derived.Test.YtjpbdkfgblmioaaDoorShelf
import Derived.Laws.IdiomStrings
import Derived.Lib.SplitLaws
import Derived.Test.YtjpbdkfgblmioaaDoorWWords
import Derived.Test.YtjpbdkfgblmioaaDoorWLast
import Derived.Test.YtjpbdkfgblmioaaDoorWTab
import Derived.Test.YtjpbdkfgblmioaaDoorWFour
import Derived.Test.YtjpbdkfgblmioaaDoorWQPut
import Derived.Test.YtjpbdkfgblmioaaDoorWApart
import Derived.Test.YtjpbdkfgblmioaaDoorWArr
import Derived.Test.YtjpbdkfgblmioaaDoorWZeros
import Derived.Test.YtjpbdkfgblmioaaDoorWFoot
import Derived.Test.YtjpbdkfgblmioaaDoorWKept
import Derived.Test.YtjpbdkfgblmioaaDoorWShare
import Derived.Test.YtjpbdkfgblmioaaDoorWN
import Derived.Test.YtjpbdkfgblmioaaDoorWFootNe
import Derived.Test.YtjpbdkfgblmioaaDoorWAt
import Derived.Test.YtjpbdkfgblmioaaDoorWEqStruct
import Derived.Test.YtjpbdkfgblmioaaDoorWRepsOne
import Derived.Test.YtjpbdkfgblmioaaDoorWInv
import Derived.Test.YtjpbdkfgblmioaaDoorWInvWords
import Derived.Test.YtjpbdkfgblmioaaDoorWGuard
import Derived.Test.YtjpbdkfgblmioaaDoorWNEv
import Derived.Test.YtjpbdkfgblmioaaDoorWMore
namespace Go.Proofs.YtjpbdkfgblmioaaDoor.PA
open Go.RowKit Go.Proofs.YtjpbdkfgblmioaaDoorW.PrintWords Go.Proofs.YtjpbdkfgblmioaaDoorW.PrintLast Go.Proofs.YtjpbdkfgblmioaaDoorW.PrintMore
attribute [local go_sem] max2_int min2_int max_two min_two max_three min_three max_four min_four   -- for this text's walks alone
set_option linter.unusedVariables false
set_option linter.unusedSimpArgs false



def errW : Option Int → Value
  | none => .nilIface
  | some c => .iface 0 (.int .i64 c)
theorem errW_none : errW none = .nilIface := rfl
theorem errW_some (c : Int) : errW (some c) = .iface 0 (.int .i64 c) := rfl

theorem info9 : (Tryd.prog.info? 9).map (fun i => (i.zero, i.size, i.bytes)) = some (some (.string ⟨#[]⟩), 1, 16) := by kernel_rfl
-- the values' own types

end Go.Proofs.YtjpbdkfgblmioaaDoor.PA
