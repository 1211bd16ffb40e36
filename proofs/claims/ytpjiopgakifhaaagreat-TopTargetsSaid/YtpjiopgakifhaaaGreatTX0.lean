import Derived.Test.YtpjiopgakifhaaaGreatTX8
set_option linter.unusedSectionVars false
set_option maxRecDepth 100000
namespace Go.Proofs.Big
open Go Go.Sx Go.Proofs Go.RowKit Go.Proofs.Top
theorem tm1 [bW]:cF (X1) 3000 17 Tryz.f17 [cH,Uj,eN 0] o1=true:=by kernel_rfl
theorem tm2 [bW]:cF (X2) 3000 17 Tryz.f17 [cH,l4,eN 0] o2=true:=by kernel_rfl
theorem tm3 [bW]:cF (X3) 3000 17 Tryz.f17 [cH,l4,eN 0] o3=true:=by kernel_rfl
end Go.Proofs.Big
