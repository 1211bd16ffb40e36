import Derived.Test.YtpjiopgakifhaaaGreatRA
import Derived.Test.YtpjiopgakifhaaaGreatRW
set_option linter.unusedSectionVars false
set_option linter.unusedVariables false
set_option maxRecDepth 100000
namespace Go.Proofs.Pl
open Go Go.Sx Go.Proofs Go.RowKit Go.Proofs.Top Go.Proofs.Big Tryz
variable [bW]
theorem n1:cF (XW) 3000 60 f60 e1.2.1 e1.2.2=true:=by kernel_rfl
theorem n7:cF (XW.more [e6,e0]) 3000 141 f141 e7.2.1 e7.2.2=true:=by kernel_rfl
theorem n9:cF (XW.more [e8,e6,e0]) 3000 17 f17 e9.2.1 e9.2.2=true:=by kernel_rfl
theorem n10:cF (XW) 3000 60 f60 Ws.2.1 Ws.2.2=true:=by kernel_rfl
theorem n12:cF (XW.more [e11,Ws,e0]) 3000 31 f31 WX.2.1 WX.2.2=true:=by kernel_rfl
theorem n19:cF (XW) 3000 350 f350 e19.2.1 e19.2.2=true:=by kernel_rfl
theorem n26:cF (XW.more [e25,e24,S6,YR]) 3000 388 f388 ZF.2.1 ZF.2.2=true:=by kernel_rfl
theorem n27:cF (XW.more [ZF,e20,e19]) 3000 227 f227 XY.2.1 XY.2.2=true:=by kernel_rfl
theorem n33:cF (XW.more [TH,e0]) 3000 141 f141 Yn.2.1 Yn.2.2=true:=by kernel_rfl
theorem n40:cF (XW) 3000 60 f60 UI.2.1 UI.2.2=true:=by kernel_rfl
theorem n43:cF (XW.more [e42,UI,e0]) 3000 17 f17 e43.2.1 e43.2.2=true:=by kernel_rfl
theorem n46:cF (XW.more [YA,Wc,e0]) 3000 31 f31 YL.2.1 YL.2.2=true:=by kernel_rfl
end Go.Proofs.Pl
