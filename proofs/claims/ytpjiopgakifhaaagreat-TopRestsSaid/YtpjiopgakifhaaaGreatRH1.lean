import Derived.Test.YtpjiopgakifhaaaGreatRA
import Derived.Test.YtpjiopgakifhaaaGreatRX5
set_option linter.unusedSectionVars false
set_option linter.unusedSimpArgs false
set_option linter.unusedVariables false
set_option maxRecDepth 100000
namespace Go.Proofs.Big
open Go Go.Sx Go.Proofs Go.RowKit Go.Proofs.Top Tryz
theorem cA1[bW]:cF (XH [] (fNo stA wF 11 0)) 2000 141 f141 (Dl stA wF gN) qR=true:=by kernel_rfl
theorem cI1[bW]:cF (XH [] (fNo stI (I 0) 11 0)) 2000 141 f141 (Dl stI (I 0) gN) qR=true:=by kernel_rfl
theorem cN1[bW]:cF (XH [] (fNo Rh vB 13 30)) 2000 141 f141 (Dl Rh vB gN) qR=true:=by kernel_rfl
theorem kN[bW]:cF (XH [] (fCon Rh wN 11 0)) 2000 141 f141 (Dl Rh wN gN) (aaB 0)=true:=by kernel_rfl
theorem kZ[bW]:cF (XH [] (fCon stZ (I 0) 11 0)) 2000 141 f141 (Dl stZ (I 0) gN) (aaB 0)=true:=by kernel_rfl
theorem kI[bW]:cF (XH [] (fCon stI (I 0) 11 0)) 2000 141 f141 (Dl stI (I 0) gN) (aaB 0)=true:=by kernel_rfl
theorem kB[bW]:cF (XH [] (fCon Rh (Y 8 1 200) 13 30)) 2000 141 f141 (Dl Rh (Y 8 1 200) gN) (aaB 30)=true:=by kernel_rfl
theorem kB0[bW]:cF (XH [] (fCon Rh (I 0) 13 30)) 2000 141 f141 (Dl Rh (I 0) gN) (aaB 30)=true:=by kernel_rfl
end Go.Proofs.Big
