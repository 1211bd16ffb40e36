import Derived.Test.YtpjiopgakifhaaaGreatRA
import Derived.Test.YtpjiopgakifhaaaGreatRW
set_option linter.unusedSectionVars false
set_option linter.unusedVariables false
set_option maxRecDepth 100000
namespace Go.Proofs.Pl
open Go Go.Sx Go.Proofs Go.RowKit Go.Proofs.Top Go.Proofs.Big Tryz
variable [bW]
theorem n3:cF (XW.more [e2,e0]) 3000 141 f141 e3.2.1 e3.2.2=true:=by kernel_rfl
theorem n5:cF (XW.more [e4,e1,e0]) 3000 17 f17 e5.2.1 e5.2.2=true:=by kernel_rfl
theorem n8:cF (XW.more [e7,e6,e0]) 3000 31 f31 e8.2.1 e8.2.2=true:=by kernel_rfl
theorem n15:cF (XW.more [U8,e0]) 3000 141 f141 YQ.2.1 YQ.2.2=true:=by kernel_rfl
theorem n17:cF (XW.more [e16,U8,e0]) 3000 17 f17 e17.2.1 e17.2.2=true:=by kernel_rfl
theorem n18:cF (XW) 3000 60 f60 TH.2.1 TH.2.2=true:=by kernel_rfl
theorem n25:cF (XW) 3000 260 f260 e25.2.1 e25.2.2=true:=by kernel_rfl
theorem n32:cF (XW.more [Zj,Yu,e28,e29,XY,TH,e0]) 3000 74 f74 e32.2.1 e32.2.2=true:=by kernel_rfl
theorem n34:cF (XW.more [Yn,e32,TH,e0]) 3000 31 f31 ZW.2.1 ZW.2.2=true:=by kernel_rfl
theorem n42:cF (XW.more [Xx,UI,e0]) 3000 31 f31 e42.2.1 e42.2.2=true:=by kernel_rfl
theorem n45:cF (XW.more [Wc,e0]) 3000 141 f141 YA.2.1 YA.2.2=true:=by kernel_rfl
end Go.Proofs.Pl
