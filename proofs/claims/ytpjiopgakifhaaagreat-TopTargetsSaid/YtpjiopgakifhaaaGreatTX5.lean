import Derived.Test.YtpjiopgakifhaaaGreatTX8
set_option linter.unusedSectionVars false
set_option maxRecDepth 100000
namespace Go.Proofs.Big
open Go Go.Sx Go.Proofs Go.RowKit Go.Proofs.Top
theorem tm6 [bW]:cF (X6) 3000 17 Tryz.f17 [cH,Dl,eN 0] (o6 0)=true:=by kernel_rfl
theorem tm6c [bW]:cF (X6) 3000 17 Tryz.f17 [cH,Dl,eN 8] (o6 8)=true:=by kernel_rfl
end Go.Proofs.Big
