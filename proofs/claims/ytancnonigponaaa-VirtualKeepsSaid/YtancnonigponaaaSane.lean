import Derived.Test.YtancnonigponaaaCore2
set_option linter.unusedVariables false
namespace Go.Proofs.Ytancnonigponaaa.Pure
open Go.RowKit Go.Proofs.Ytancnonigponaaa.PV Go.Proofs.YtancnonigponaaaW.PrintWords Go.Proofs.YtancnonigponaaaW.PrintLast
theorem sane_at : groupcontrollaw15_sane.f 200 = some true := by kernel_rfl
theorem sane_ev : Ev (fun k => groupcontrollaw15_sane.f k) true := Ev.of groupcontrollaw15_sane.mono sane_at
end Go.Proofs.Ytancnonigponaaa.Pure
