import Derived.Test.YtpjiopgakifhaaaGreatRA
import Derived.Test.YtpjiopgakifhaaaGreatRX5
set_option linter.unusedSectionVars false
set_option linter.unusedSimpArgs false
set_option linter.unusedVariables false
set_option maxRecDepth 100000
namespace Go.Proofs.Big
open Go Go.Sx Go.Proofs Go.RowKit Go.Proofs.Top Tryz
theorem tmE[bW]:cF (XH [] (gE stZ)) 3000 17 f17 [w5,stZ,FV] oE=true:=by kernel_rfl
theorem tmE0[bW]:cF (XH [] (gE stI)) 3000 17 f17 [w5,stI,FV] oE0=true:=by kernel_rfl
end Go.Proofs.Big
