import Derived.Test.YtpjiopgakifhaaaGreatTX8
set_option linter.unusedSectionVars false
set_option maxRecDepth 100000
namespace Go.Proofs.Big
open Go Go.Sx Go.Proofs Go.RowKit Go.Proofs.Top
theorem tm4t [bW]:cF (X4 true) 3000 17 Tryz.f17 [cH,l4,eN 0] (o4 true)=true:=by kernel_rfl
end Go.Proofs.Big
