import Derived.Test.YtpjiopgakifhaaaGreatRA
import Derived.Test.YtpjiopgakifhaaaGreatRX5
set_option linter.unusedSectionVars false
set_option linter.unusedSimpArgs false
set_option linter.unusedVariables false
set_option maxRecDepth 100000
namespace Go.Proofs.Big
open Go Go.Sx Go.Proofs Go.RowKit Go.Proofs.Top Tryz
theorem tmA[bW]:cF (XH hA gA) 3000 17 f17 [w5,stA,FV] oA=true:=by kernel_rfl
theorem tmI[bW]:cF (XH hI gI) 3000 17 f17 [w5,stI,FV] oI=true:=by kernel_rfl
theorem tmB[bW]:cF (XH hB gB) 3000 17 f17 [w5,Rh,FV] oBn=true:=by kernel_rfl
end Go.Proofs.Big
