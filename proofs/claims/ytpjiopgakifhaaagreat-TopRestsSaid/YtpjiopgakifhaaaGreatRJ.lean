import Derived.Test.YtpjiopgakifhaaaGreatRA
import Derived.KernelRfl
set_option maxRecDepth 100000
namespace Go.Sx
def ab:Nat->Prop->Prop
 |0,p=>p
 |n+1,p=>True/\ab n p
theorem aA(n:Nat)(p:Prop):ab n p=p:=by
 induction n with
 |zero=>rfl
 |succ n b=>simp only[ab,b,true_and]
end Go.Sx
