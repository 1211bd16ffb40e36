import Derived.Test.YtpjiopgakifhaaaGreatTX8
set_option linter.unusedSectionVars false
set_option maxRecDepth 100000
namespace Go.Proofs.Big
open Go Go.Sx Go.Proofs Go.RowKit Go.Proofs.Top
theorem tm5f [bW]:cF (X5a false) 3000 17 Tryz.f17 [cH,B3,eN 0] (o5 false)=true:=by kernel_rfl
end Go.Proofs.Big
