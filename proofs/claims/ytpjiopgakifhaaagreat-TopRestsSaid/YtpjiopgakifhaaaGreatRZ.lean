/-
  TopRests: for every input the law returns true, and each argument reads afterwards as it did. Conditions: none.
-/
import Derived.Test.YtpjiopgakifhaaaGreatRA
import Derived.Test.YtpjiopgakifhaaaGreatRY0
import Derived.Test.YtpjiopgakifhaaaGreatRD
import Derived.Test.YtpjiopgakifhaaaGreatRows
import Derived.Test.YtpjiopgakifhaaaGreatChecked
set_option linter.unusedSimpArgs false
set_option linter.unusedVariables false
set_option maxRecDepth 100000
namespace Go.Proofs.YtpjiopgakifhaaaGreat
open Go Go.Sx Go.Proofs Go.RowKit Go.ChangeShapes Go.WideShapes Go.ChangeAt Tryz
theorem own:ownKnob prog.godebug=none:=by kernel_rfl
theorem laidOut:laidOutB prog=true:=by kernel_rfl
@[reducible] def rho0:bW:=⟨λ_=>0,λ_=>.bF 1 0 λ_=>[],λ_=>rfl⟩
theorem topRests_lifted(j:Os)(c:j.Started)(H:Type)(d:TypeId×Value->H):
 ReturnsInHanded {} Tryz.checked j 4 .any (Rows.topRestsSpec.pre6 d prog Tryz.f4 Rows.topRestsRow.domain false) (Rows.topRestsSpec.post d prog Tryz.f4 false true false false):=by
 letI:=rho0
 refine GV (C:=Tryz.checked) (tb:=4) c own laidOut (by kernel_rfl) func4 rfl (by kernel_rfl) Tryz.underlying4 ?_ (by kernel_rfl) (by kernel_rfl)
  (ChangeSpec.witness6 (enc:=d) (C:=Tryz.checked) false ⟨#[], #[.int .i64 0,.int .i64 0,.int .i64 0],[]⟩ 8 (by kernel_rfl) (by kernel_rfl) (by kernel_rfl) (by kernel_rfl)) ?_
 . intro k h;have h:k.length=3:=by rw[h];kernel_rfl
   match k,h with
   |[d0,d1,d2],_=>rfl
 . intro W B args h i;rw[show(Tryz.f4.params.toList)=[3,3,3] by kernel_rfl]at h;obtain⟨x,D,rfl,q,h⟩:=open_int (ik:=.i64) h (by kernel_rfl) (by kernel_rfl);obtain⟨y,E,rfl,r,h⟩:=open_int (ik:=.i64) h (by kernel_rfl) (by kernel_rfl);obtain⟨z,F,rfl,u,h⟩:=open_int (ik:=.i64) h (by kernel_rfl) (by kernel_rfl);cases h;have w:args= #[.int .i64 x,.int .i64 y,.int .i64 z]:=by
    obtain⟨A⟩:=args
    match A,i with
    |[v0,v1,v2],⟨h0,h1,h2,_⟩=>rw[aK h0,aK h1,aK h2]
   subst w;refine(Big.rests_calls (Big.pre4_of q r u) Pl.VX.x W).mono ?_;rintro e G ⟨rfl,hB⟩;exact⟨.bool true,qG W,rfl,.tt _,.refl _,λb o v m=>(hB.cell (p:=⟨b,o,none⟩) (Fi.EC m)).trans m,λ_ _ _=>rfl,hB⟩
theorem ig{a b:Bool}(h:a=true)(k:b=true):(a&&b)=true:=by rw[h,k];rfl
section
theorem j0:(let P:=prog;let c:=Rows.topRestsRow;let s:=Rows.topRestsSpec;let f:=4;let fn:=Tryz.f4;c.wf (OpenSpec.ofChange s))=true:=by kernel_rfl
theorem j1:laidOutB prog=true:=laidOut
theorem j2:(let P:=prog;let c:=Rows.topRestsRow;let s:=Rows.topRestsSpec;let f:=4;let fn:=Tryz.f4;mapsRowed P)=true:=by kernel_rfl
theorem j3:(let P:=prog;let c:=Rows.topRestsRow;let s:=Rows.topRestsSpec;let f:=4;let fn:=Tryz.f4;fn.params.all (P.readableRec ·))=true:=by kernel_rfl
theorem j4:(let P:=prog;let c:=Rows.topRestsRow;let s:=Rows.topRestsSpec;let f:=4;let fn:=Tryz.f4;namedTie P c.named s.vars)=true:=by kernel_rfl
theorem j5:(let P:=prog;let c:=Rows.topRestsRow;let s:=Rows.topRestsSpec;let f:=4;let fn:=Tryz.f4;(c.stops==[]))=true:=by kernel_rfl
theorem j6:(let P:=prog;let c:=Rows.topRestsRow;let s:=Rows.topRestsSpec;let f:=4;let fn:=Tryz.f4;(P.stops==[]))=true:=by kernel_rfl
theorem j7:(let P:=prog;let c:=Rows.topRestsRow;let s:=Rows.topRestsSpec;let f:=4;let fn:=Tryz.f4;(c.knobs==[]))=true:=by kernel_rfl
theorem j8:(let P:=prog;let c:=Rows.topRestsRow;let s:=Rows.topRestsSpec;let f:=4;let fn:=Tryz.f4;(P.stopKnobs==[]))=true:=by kernel_rfl
theorem j9:(let P:=prog;let c:=Rows.topRestsRow;let s:=Rows.topRestsSpec;let f:=4;let fn:=Tryz.f4;(c.inPlace==P.inPlace f))=true:=by kernel_rfl
theorem j10:(let P:=prog;let c:=Rows.topRestsRow;let s:=Rows.topRestsSpec;let f:=4;let fn:=Tryz.f4;(c.unfollowed==P.unfollowed f))=true:=by kernel_rfl
theorem j11:(let P:=prog;let c:=Rows.topRestsRow;let s:=Rows.topRestsSpec;let f:=4;let fn:=Tryz.f4;(c.recurses==P.recurses f))=true:=by kernel_rfl
theorem j12:(let P:=prog;let c:=Rows.topRestsRow;let s:=Rows.topRestsSpec;let f:=4;let fn:=Tryz.f4;(c.named==P.varsNamed f))=true:=by kernel_rfl
theorem j13:(let P:=prog;let c:=Rows.topRestsRow;let s:=Rows.topRestsSpec;let f:=4;let fn:=Tryz.f4;(c.maps==(fn.params.toList++s.plain.varTypes P).any (P.mapsRec ·)))=true:=by kernel_rfl
theorem j14:(let P:=prog;let c:=Rows.topRestsRow;let s:=Rows.topRestsSpec;let f:=4;let fn:=Tryz.f4;(c.ifaces==(fn.params.toList++s.plain.varTypes P).any (P.ifacesRec ·)))=true:=by kernel_rfl
theorem j15:(let P:=prog;let c:=Rows.topRestsRow;let s:=Rows.topRestsSpec;let f:=4;let fn:=Tryz.f4;(c.mapsOut==P.mapsAmong fn.resultTypes.toList))=true:=by kernel_rfl
theorem j16:(let P:=prog;let c:=Rows.topRestsRow;let s:=Rows.topRestsSpec;let f:=4;let fn:=Tryz.f4;(c.loops==(fn.params.toList++s.plain.varTypes P).any (P.loopsFrom ·)))=true:=by kernel_rfl
theorem j17:(let P:=prog;let c:=Rows.topRestsRow;let s:=Rows.topRestsSpec;let f:=4;let fn:=Tryz.f4;(c.wideKeys==(fn.params.toList++s.plain.varTypes P++fn.resultTypes.toList).any (P.wideKeysFrom ·)))=true:=by kernel_rfl
theorem j18:(let P:=prog;let c:=Rows.topRestsRow;let s:=Rows.topRestsSpec;let f:=4;let fn:=Tryz.f4;s.vars.all (P.varReadable ·))=true:=by kernel_rfl
theorem j19:(let P:=prog;let c:=Rows.topRestsRow;let s:=Rows.topRestsSpec;let f:=4;let fn:=Tryz.f4;fn.resultTypes.all (λt=>P.readableRec t&&decide (t<P.types.size)))=true:=by kernel_rfl
theorem j20:(let P:=prog;let c:=Rows.topRestsRow;let s:=Rows.topRestsSpec;let f:=4;let fn:=Tryz.f4;(c.ifacesOut==fn.resultTypes.toList.any (P.ifacesRec ·)))=true:=by kernel_rfl
theorem j21:(let P:=prog;let c:=Rows.topRestsRow;let s:=Rows.topRestsSpec;let f:=4;let fn:=Tryz.f4;(c.loopsOut==fn.resultTypes.toList.any (P.loopsFrom ·)))=true:=by kernel_rfl
theorem j22:(let P:=prog;let c:=Rows.topRestsRow;let s:=Rows.topRestsSpec;let f:=4;let fn:=Tryz.f4;(c.plainKeys==P.plainKeys))=true:=by kernel_rfl
theorem j23:(let P:=prog;let c:=Rows.topRestsRow;let s:=Rows.topRestsSpec;let f:=4;let fn:=Tryz.f4;c.shortTexts.isNone)=true:=by kernel_rfl
theorem j24:(let P:=prog;let c:=Rows.topRestsRow;let s:=Rows.topRestsSpec;let f:=4;let fn:=Tryz.f4;P.stopsHeard)=true:=by kernel_rfl
theorem j25:(let P:=prog;let c:=Rows.topRestsRow;let s:=Rows.topRestsSpec;let f:=4;let fn:=Tryz.f4;P.mayEnter)=true:=by kernel_rfl
theorem j26:(let P:=prog;let c:=Rows.topRestsRow;let s:=Rows.topRestsSpec;let f:=4;let fn:=Tryz.f4;(c.lifted==P.liftsFinal))=true:=by kernel_rfl
theorem j27:(let P:=prog;let c:=Rows.topRestsRow;let s:=Rows.topRestsSpec;let f:=4;let fn:=Tryz.f4;(P.make==some c.make))=true:=by kernel_rfl
theorem j28:(let P:=prog;let c:=Rows.topRestsRow;let s:=Rows.topRestsSpec;let f:=4;let fn:=Tryz.f4;(c.kinds==(if c.domain.isEmpty then []else fn.params.toList.map λt=>match P.underlying t with|some (.int k)=>some k|_=>none)))=true:=by kernel_rfl
theorem j29:(let P:=prog;let c:=Rows.topRestsRow;let s:=Rows.topRestsSpec;let f:=4;let fn:=Tryz.f4;(c.pinned==c.pinnedBy))=true:=by kernel_rfl
theorem j30:(let P:=prog;let c:=Rows.topRestsRow;let s:=Rows.topRestsSpec;let f:=4;let fn:=Tryz.f4;(c.veiled==(fn.params.toList++s.plain.varTypes P++fn.resultTypes.toList).any (P.veiledRec ·)))=true:=by kernel_rfl
theorem j31:(let P:=prog;let c:=Rows.topRestsRow;let s:=Rows.topRestsSpec;let f:=4;let fn:=Tryz.f4;c.veiledFits P fn.params.toList (fn.params.toList++s.plain.varTypes P++fn.resultTypes.toList))=true:=by kernel_rfl
end
theorem UM:joinedFacts prog 4 Tryz.f4 Rows.topRestsSpec Rows.topRestsRow=true:=
 (ig (ig (ig (ig (ig (ig (ig (ig (ig (ig (ig (ig (ig (ig (ig (ig (ig (ig (ig (ig (ig (ig (ig (ig (ig (ig (ig (ig (ig (ig (ig j0 j1) j2) j3) j4) j5) j6) j7) j8) j9) j10) j11) j12) j13) j14) j15) j16) j17) j18) j19) j20) j21) j22) j23) j24) j25) j26) j27) j28) j29) j30) j31)
theorem named4:prog.funcNamed Rows.topRestsRow.func=some 4:=by kernel_rfl
theorem inst4:Tryz.f4.isInstance prog Rows.topRestsRow.origin Rows.topRestsRow.targs:=KB (by kernel_rfl)
theorem wrap4:Tryz.f4.isWrapper prog Rows.topRestsRow.wrapper Rows.topRestsRow.mainSum:=by
 unfold Func.isWrapper;first|(rw[JB (by decide+kernel)];kernel_rfl)|(rw[JA (by decide+kernel)];exact⟨rfl,rfl⟩)
theorem topRests_holds:Rows.TopRestsSaid:=
 OpenClaim.holds_of_wide 4 Tryz.f4 rfl rfl rfl rfl rfl rfl rfl ⟨rfl,rfl,rfl,rfl,rfl⟩ rfl rfl rfl rfl rfl named4 func4 UM inst4 wrap4
  (λos started H b _=>topRests_lifted os started H b)
end Go.Proofs.YtpjiopgakifhaaaGreat
