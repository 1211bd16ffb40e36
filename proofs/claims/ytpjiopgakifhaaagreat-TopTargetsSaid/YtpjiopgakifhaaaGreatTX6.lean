import Derived.Test.YtpjiopgakifhaaaGreatTX8
set_option linter.unusedSectionVars false
set_option maxRecDepth 100000
namespace Go.Proofs.Big
open Go Go.Sx Go.Proofs Go.RowKit Go.Proofs.Top
theorem tm7 [bW]:cF (X7) 3000 17 Tryz.f17 [cH,Tb,eN 0] o7=true:=by kernel_rfl
theorem tm8 [bW]:cF (X8) 3000 17 Tryz.f17 [cH,V8,eN 8] o8=true:=by kernel_rfl
end Go.Proofs.Big
