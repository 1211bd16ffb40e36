import Derived.Test.YtpjiopgakifhaaaGreatRA
import Derived.Test.YtpjiopgakifhaaaGreatRX5
set_option linter.unusedSectionVars false
set_option linter.unusedSimpArgs false
set_option linter.unusedVariables false
set_option maxRecDepth 100000
namespace Go.Proofs.Big
open Go Go.Sx Go.Proofs Go.RowKit Go.Proofs.Top Tryz
theorem cA0[bW]:cF (XH [] (fFar stA wF 11)) 2000 141 f141 (Dl stA wF gN) qR=true:=by kernel_rfl
theorem cI0[bW]:cF (XH [] (fFar stI (I 0) 11)) 2000 141 f141 (Dl stI (I 0) gN) qR=true:=by kernel_rfl
theorem cN0[bW]:cF (XH [] (fFar Rh vB 13)) 2000 141 f141 (Dl Rh vB gN) qR=true:=by kernel_rfl
theorem sN0[bW]:cF (XH [(y100,1,1000)] [Cm Rh]) 2000 141 f141 (Dl Rh (I 0) (I 0)) qR=true:=by kernel_rfl
theorem sZ0[bW]:cF (XH [(y100,1,1000)] [Cm stZ]) 2000 141 f141 (Dl stZ (I 0) (I 0)) qR=true:=by kernel_rfl
theorem sI0[bW]:cF (XH [(y100,1,1000)] [Cm stI]) 2000 141 f141 (Dl stI (I 0) (I 0)) qR=true:=by kernel_rfl
theorem sN1[bW]:cF (XH [(y100,0,0)] (fSt Rh)) 2000 141 f141 (Dl Rh (I 0) (I 0)) qR=true:=by kernel_rfl
theorem sZ1[bW]:cF (XH [(y100,0,0)] (fSt stZ)) 2000 141 f141 (Dl stZ (I 0) (I 0)) qR=true:=by kernel_rfl
theorem sI1[bW]:cF (XH [(y100,0,0)] (fSt stI)) 2000 141 f141 (Dl stI (I 0) (I 0)) qR=true:=by kernel_rfl
end Go.Proofs.Big
