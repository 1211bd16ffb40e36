import Derived.Test.YtpjiopgakifhaaaGreatRA
import Derived.Test.YtpjiopgakifhaaaGreatRX5
set_option linter.unusedSectionVars false
set_option linter.unusedSimpArgs false
set_option linter.unusedVariables false
set_option maxRecDepth 100000
namespace Go.Proofs.Big
open Go Go.Sx Go.Proofs Go.RowKit Go.Proofs.Top Tryz
theorem tmC[bW]:cF (XH hC gC) 3000 17 f17 [w5,Rh,FV] oC=true:=by kernel_rfl
theorem tmD[bW]:cF (XH hD gD) 3000 17 f17 [w5,Rh,FV] oC=true:=by kernel_rfl
end Go.Proofs.Big
