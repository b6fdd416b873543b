/- Contracts of functions of the program and of its references, over the translation, for values that can be read as data: each call comes to what a Lean function says. Written by the kit's printer and a program of this session's, with hand-made contracts spliced in. -/
import Derived.Test.YtgfbamddaepebaaDoorProg
import Derived.Below
import Derived.Deep.Draws
import Derived.Deep.AppendLies
import Derived.Maps.AppendAt
import Derived.OwnWalk
import Derived.Laws.BytesArg
import Derived.Laws.MakeOwn
import Derived.Laws.OwnMore
import Derived.Deep.OwnRows
import Derived.Tactics
import Derived.Lib.ConvBytes
import Derived.Laws.Slices
import Derived.WalkKit
import Derived.KernelRfl
import Derived.RowKit3
import Derived.Deep.LoopGhost
import Derived.Deep.QuietTactic
import Derived.BigQuiet
import Derived.WideLaws
import Derived.Deep.DeepCutAuto
import Derived.Deep.CutBlock
import Derived.Deep.RegionHeld3
import Derived.Laws.Rows
import Derived.Lib.AppendStr
import Derived.ArgAppend
import Derived.Laws.IdiomCopy
import Derived.OrdersHeld
import Derived.Laws.BitsLemmas
import Derived.RowKit
import Derived.Test.YtgfbamddaepebaaDoorShelf
import Derived.Laws.RangeAny
import Derived.Laws.RangeString
import Derived.LoopTactic
import Derived.Sort.Grow
import Derived.Test.YtgfbamddaepebaaDoorWWords
import Derived.Test.YtgfbamddaepebaaDoorWLast
import Derived.Test.YtgfbamddaepebaaDoorWTab
import Derived.Test.YtgfbamddaepebaaDoorWFour
import Derived.Test.YtgfbamddaepebaaDoorWQPut
import Derived.Test.YtgfbamddaepebaaDoorWApart
import Derived.Test.YtgfbamddaepebaaDoorWArr
import Derived.Test.YtgfbamddaepebaaDoorWZeros
import Derived.Test.YtgfbamddaepebaaDoorWFoot
import Derived.Test.YtgfbamddaepebaaDoorWKept
import Derived.Test.YtgfbamddaepebaaDoorWShare
import Derived.Test.YtgfbamddaepebaaDoorWN
import Derived.Test.YtgfbamddaepebaaDoorWFootNe
import Derived.Test.YtgfbamddaepebaaDoorWAt
import Derived.Test.YtgfbamddaepebaaDoorWEqStruct
import Derived.Test.YtgfbamddaepebaaDoorWRepsOne
import Derived.Test.YtgfbamddaepebaaDoorWInv
import Derived.Test.YtgfbamddaepebaaDoorWInvWords
import Derived.Test.YtgfbamddaepebaaDoorWGuard
import Derived.Test.YtgfbamddaepebaaDoorWNEv
import Derived.Test.YtgfbamddaepebaaDoorWMore
namespace Go.Proofs.YtgfbamddaepebaaDoor.PN
open Go.RowKit Go.Proofs.YtgfbamddaepebaaDoorW.PrintWords Go.Proofs.YtgfbamddaepebaaDoorW.PrintLast Go.Proofs.YtgfbamddaepebaaDoorW.PrintMore
attribute [local go_sem] max2_int min2_int max_two min_two max_three min_three max_four min_four   -- for this text's walks alone
set_option linter.unusedVariables false
set_option linter.unusedSimpArgs false



def errW : Option Int → Value
  | none => .nilIface
  | some c => .iface 0 (.int .i64 c)
theorem errW_none : errW none = .nilIface := rfl
theorem errW_some (c : Int) : errW (some c) = .iface 0 (.int .i64 c) := rfl

theorem info3 : (Tryd.prog.info? 3).map (fun i => (i.zero, i.size, i.bytes)) = some (some (.int .i64 0), 1, 8) := by kernel_rfl
theorem info5 : (Tryd.prog.info? 5).map (fun i => (i.zero, i.size, i.bytes)) = some (some (.int .u8 0), 1, 1) := by kernel_rfl
theorem info9 : (Tryd.prog.info? 9).map (fun i => (i.zero, i.size, i.bytes)) = some (some (.string ⟨#[]⟩), 1, 16) := by kernel_rfl
-- the values' own types

end Go.Proofs.YtgfbamddaepebaaDoor.PN
