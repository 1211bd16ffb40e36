import Derived.Test.YtpjiopgakifhaaaGreatZX
namespace Go.Proofs.Big
open Go Go.Sx Go.Proofs Go.RowKit Go.Proofs.Top
set_option linter.unusedSectionVars false
set_option maxRecDepth 100000
theorem laM2 [bW]:cF (XL true) 3000 17 Tryz.f17 [mw,mv true,Ap] (Gn true)=true:=by kernel_rfl
end Go.Proofs.Big
