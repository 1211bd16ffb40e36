import Derived.Test.YtpjiopgakifhaaaGreatRA
import Derived.Test.YtpjiopgakifhaaaGreatRW
set_option linter.unusedSectionVars false
set_option linter.unusedVariables false
set_option maxRecDepth 100000
namespace Go.Proofs.Pl
open Go Go.Sx Go.Proofs Go.RowKit Go.Proofs.Top Go.Proofs.Big Tryz
variable [bW]
theorem n2:cF (XW) 3000 60 f60 e2.2.1 e2.2.2=true:=by kernel_rfl
theorem n11:cF (XW.more [Ws,e0]) 3000 141 f141 e11.2.1 e11.2.2=true:=by kernel_rfl
theorem n13:cF (XW.more [WX,Ws,e0]) 3000 17 f17 e13.2.1 e13.2.2=true:=by kernel_rfl
theorem n14:cF (XW) 3000 60 f60 U8.2.1 U8.2.2=true:=by kernel_rfl
theorem n16:cF (XW.more [YQ,U8,e0]) 3000 31 f31 e16.2.1 e16.2.2=true:=by kernel_rfl
theorem n20:cF (XW) 3000 350 f350 e20.2.1 e20.2.2=true:=by kernel_rfl
theorem n22:cF (XW) 3000 309 f309 e22.2.1 e22.2.2=true:=by kernel_rfl
theorem n28:cF (XW.more [e22,S6]) 3000 261 f261 e28.2.1 e28.2.2=true:=by kernel_rfl
theorem n29:cF (XW.more [e24,S6,e28]) 3000 209 f209 e29.2.1 e29.2.2=true:=by kernel_rfl
theorem n31:cF (XW) 3000 276 f276 Zj.2.1 Zj.2.2=true:=by kernel_rfl
theorem n37:cF (XW.more [Vw,e0]) 3000 141 f141 YD.2.1 YD.2.2=true:=by kernel_rfl
theorem n44:cF (XW) 3000 60 f60 Wc.2.1 Wc.2.2=true:=by kernel_rfl
theorem n47:cF (XW.more [YL,Wc,e0]) 3000 17 f17 e47.2.1 e47.2.2=true:=by kernel_rfl
end Go.Proofs.Pl
