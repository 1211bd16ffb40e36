import Derived.Test.YtpjiopgakifhaaaGreatRA
import Derived.Test.YtpjiopgakifhaaaGreatRW
set_option linter.unusedSectionVars false
set_option linter.unusedVariables false
set_option maxRecDepth 100000
namespace Go.Proofs.Pl
open Go Go.Sx Go.Proofs Go.RowKit Go.Proofs.Top Go.Proofs.Big Tryz
variable [bW]
theorem n0:cF (XW) 3000 44 f44 e0.2.1 e0.2.2=true:=by kernel_rfl
theorem n4:cF (XW.more [e3,e2,e0]) 3000 31 f31 e4.2.1 e4.2.2=true:=by kernel_rfl
theorem n6:cF (XW) 3000 60 f60 e6.2.1 e6.2.2=true:=by kernel_rfl
theorem n21:cF (XW) 3000 309 f309 S6.2.1 S6.2.2=true:=by kernel_rfl
theorem n23:cF (XW.more [e22,S6]) 3000 261 f261 YR.2.1 YR.2.2=true:=by kernel_rfl
theorem n24:cF (XW) 3000 309 f309 e24.2.1 e24.2.2=true:=by kernel_rfl
theorem n30:cF (XW) 3000 216 f216 Yu.2.1 Yu.2.2=true:=by kernel_rfl
theorem n35:cF (XW.more [ZW,TH,e0]) 3000 17 f17 ZS.2.1 ZS.2.2=true:=by kernel_rfl
theorem n36:cF (XW) 3000 60 f60 Vw.2.1 Vw.2.2=true:=by kernel_rfl
theorem n38:cF (XW.more [YD,Vw,e0]) 3000 31 f31 YU.2.1 YU.2.2=true:=by kernel_rfl
theorem n39:cF (XW.more [YU,Vw,e0]) 3000 17 f17 Zt.2.1 Zt.2.2=true:=by kernel_rfl
theorem n41:cF (XW.more [UI,e0]) 3000 141 f141 Xx.2.1 Xx.2.2=true:=by kernel_rfl
theorem m7:cF (XW.more [e47,e43,Zt,ZS,e17,e13,e9,e5,e0]) 3000 7 Tryz.f7 [] .tt=true:=by kernel_rfl
end Go.Proofs.Pl
