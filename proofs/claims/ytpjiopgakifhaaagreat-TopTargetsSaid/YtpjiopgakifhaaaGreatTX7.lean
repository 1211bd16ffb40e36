import Derived.Test.YtpjiopgakifhaaaGreatTX
set_option linter.unusedSectionVars false
set_option linter.unusedSimpArgs false
set_option linter.unusedVariables false
set_option maxRecDepth 100000
namespace Go.Proofs.Big
open Go Go.Sx Go.Proofs Go.RowKit Go.Proofs.Top
def xh (V:Int):Int:= -1000+900/V*V
def nbB (q:ao):Bool:=decide (0<=q.2.1.1)&&decide (0<=q.2.2.1)&&decide (0<=q.2.1.2)&&decide (q.2.1.2<=1000)&&decide (0<=q.2.2.2)&&decide (q.2.2.2<=1000)
def ckH (V:Int):Bool:=Ap (xh V) V&&(dD (w3 (xh V) V)).2&&(match decide (xh V= -100)with
 |true=>decide (rt (xh V) V=([0,1],(0,0),(0,0)))
 |false=>vF (rt (xh V) V)&&nbB (rt (xh V) V)&&decide (256*xh V+16*kX (rt (xh V) V)*V<= -1))
def ckT (V:Int):Bool:=Ap (-100-V) V&& !(dD (w3 (-100-V) V)).2
def ckA (V:Int):Bool:=Ap (-100) (-(V/2))&& !(dD (w3 (-100) (-(V/2)))).2
def ckV (V:Int):Bool:=ckH V&&ckT V&&ckA V
theorem ck0 :((List.range 100).all fun k=>ckV (60+(k:Int)))=true:=by kernel_rfl
theorem ck1 :((List.range 100).all fun k=>ckV (160+(k:Int)))=true:=by kernel_rfl
theorem ck2 :((List.range 100).all fun k=>ckV (260+(k:Int)))=true:=by kernel_rfl
theorem ck3 :((List.range 100).all fun k=>ckV (360+(k:Int)))=true:=by kernel_rfl
theorem ck4 :((List.range 100).all fun k=>ckV (460+(k:Int)))=true:=by kernel_rfl
theorem CH {P:Int->Bool} {a:Int} (h:((List.range 100).all fun k=>P (a+(k:Int)))=true) {V:Int} (h1:a<=V) (h2:V<a+100):P V=true:=by
 have:=Js.1 h (V-a).toNat (Kn.2 (by omega))
 rwa [show a+((V-a).toNat:Int)=V by omega]at this
theorem ckV_all {V:Int} (h1:60<=V) (h2:V<=559):ckH V=true/\ckT V=true/\ckA V=true:=by
 have:ckV V=true:=by
  rcases(show V<160\/(160<=V/\V<260)\/(260<=V/\V<360)\/(360<=V/\V<460)\/460<=V by omega)with h|h|h|h|h
  . exact CH ck0 h1 (by omega)
  . exact CH ck1 h.1 (by omega)
  . exact CH ck2 h.1 (by omega)
  . exact CH ck3 h.1 (by omega)
  . exact CH ck4 h (by omega)
 unfold ckV at this;simp only [J2]at this;exact⟨this.1.1,this.1.2,this.2⟩
end Go.Proofs.Big
