/-
  TopTargets: for every input the law returns true, and each argument reads afterwards as it did. Conditions: none.
-/
import Derived.Test.YtpjiopgakifhaaaGreatTY0
import Derived.Test.YtpjiopgakifhaaaGreatTD
import Derived.Test.YtpjiopgakifhaaaGreatRows
import Derived.Test.YtpjiopgakifhaaaGreatChecked
set_option linter.unusedSimpArgs false
set_option linter.unusedVariables false
set_option maxRecDepth 100000
namespace Go.Proofs.YtpjiopgakifhaaaGreat
open Go Go.Sx Go.Proofs Go.RowKit Go.ChangeShapes Go.WideShapes Go.ChangeAt
theorem own :ownKnob Tryz.prog.godebug=none:=by kernel_rfl
theorem laidOut :laidOutB Tryz.prog=true:=by kernel_rfl
@[reducible] def rho0 :bW:=⟨fun _=>0,fun _=> .aI 1 0 fun _=>[],fun _=>rfl⟩
theorem HF (w:World):Calls Tryz.prog 7 #[] w fun e w'=>e= .returned (.bool true)/\Below w.heap.size w w':=by
 letI:=rho0
 refine(Pl.VX.calls [] True .tt (by kernel_rfl) trivial (fun _ _=>none) w #[] (fun _ _ _ h=>by cases h) trivial).mono ?_;rintro e w' ⟨v,R',rfl,h2,h3,h4,h5,h6⟩;cases h2;exact⟨rfl,h6⟩
theorem topTargets_lifted (os:Os) (started:os.Started) (H:Type) (enc:TypeId×Value->H):
 ReturnsInHanded {} Tryz.checked os 6 .any (Rows.topTargetsSpec.pre6 enc Tryz.prog Tryz.f6 Rows.topTargetsRow.domain false) (Rows.topTargetsSpec.post enc Tryz.prog Tryz.f6 false true false false):=by
 letI:=rho0
 refine GV (C:=Tryz.checked) (tb:=4) started own laidOut (by kernel_rfl) Tryz.func6 rfl (by kernel_rfl) Tryz.underlying4 ?_ (by kernel_rfl) (by kernel_rfl)
  (ChangeSpec.witness6 (enc:=enc) (C:=Tryz.checked) false ⟨#[], #[.int .i64 0, .int .i64 0],[]⟩ 8 (by kernel_rfl) (by kernel_rfl) (by kernel_rfl) (by kernel_rfl)) ?_
 . intro ds h;have h:ds.length=2:=by rw [h];kernel_rfl
   match ds,h with
   |[d0,d1],_=>rfl
 . intro W xs args h hrel;rw [show(Tryz.f6.params.toList)=[3,3] by kernel_rfl]at h;obtain⟨n,r0,rfl,w0,h⟩:=open_int (ik:= .i64) h (by kernel_rfl) (by kernel_rfl);obtain⟨k,r1,rfl,w1,h⟩:=open_int (ik:= .i64) h (by kernel_rfl) (by kernel_rfl);cases h;have ha:args= #[.int .i64 n, .int .i64 k]:=by
    obtain⟨al⟩:=args
    match al,hrel with
    |[v0,v1],⟨h0,h1,_⟩=>rw [aK h0,aK h1]
   subst ha;refine(Big.Dr n k HF).mono ?_;rintro e w' ⟨rfl,hB⟩;exact⟨.bool true,qG W,rfl, .tt _, .refl _,fun b o v hv=>(hB.cell (p:=⟨b,o,none⟩) (Fi.EC hv)).trans hv,fun _ _ _=>rfl,hB⟩
theorem ig {a b:Bool} (h:a=true) (k:b=true):(a&&b)=true:=by rw [h,k];rfl
section
theorem j0 :(let P:=Tryz.prog;let c:=Rows.topTargetsRow;let s:=Rows.topTargetsSpec;let f:=6;let fn:=Tryz.f6;c.wf (OpenSpec.ofChange s))=true:=by kernel_rfl
theorem j1 :laidOutB Tryz.prog=true:=laidOut
theorem j2 :(let P:=Tryz.prog;let c:=Rows.topTargetsRow;let s:=Rows.topTargetsSpec;let f:=6;let fn:=Tryz.f6;mapsRowed P)=true:=by kernel_rfl
theorem j3 :(let P:=Tryz.prog;let c:=Rows.topTargetsRow;let s:=Rows.topTargetsSpec;let f:=6;let fn:=Tryz.f6;fn.params.all (P.readableRec ·))=true:=by kernel_rfl
theorem j4 :(let P:=Tryz.prog;let c:=Rows.topTargetsRow;let s:=Rows.topTargetsSpec;let f:=6;let fn:=Tryz.f6;namedTie P c.named s.vars)=true:=by kernel_rfl
theorem j5 :(let P:=Tryz.prog;let c:=Rows.topTargetsRow;let s:=Rows.topTargetsSpec;let f:=6;let fn:=Tryz.f6;(c.stops==[]))=true:=by kernel_rfl
theorem j6 :(let P:=Tryz.prog;let c:=Rows.topTargetsRow;let s:=Rows.topTargetsSpec;let f:=6;let fn:=Tryz.f6;(P.stops==[]))=true:=by kernel_rfl
theorem j7 :(let P:=Tryz.prog;let c:=Rows.topTargetsRow;let s:=Rows.topTargetsSpec;let f:=6;let fn:=Tryz.f6;(c.knobs==[]))=true:=by kernel_rfl
theorem j8 :(let P:=Tryz.prog;let c:=Rows.topTargetsRow;let s:=Rows.topTargetsSpec;let f:=6;let fn:=Tryz.f6;(P.stopKnobs==[]))=true:=by kernel_rfl
theorem j9 :(let P:=Tryz.prog;let c:=Rows.topTargetsRow;let s:=Rows.topTargetsSpec;let f:=6;let fn:=Tryz.f6;(c.inPlace==P.inPlace f))=true:=by kernel_rfl
theorem j10 :(let P:=Tryz.prog;let c:=Rows.topTargetsRow;let s:=Rows.topTargetsSpec;let f:=6;let fn:=Tryz.f6;(c.unfollowed==P.unfollowed f))=true:=by kernel_rfl
theorem j11 :(let P:=Tryz.prog;let c:=Rows.topTargetsRow;let s:=Rows.topTargetsSpec;let f:=6;let fn:=Tryz.f6;(c.recurses==P.recurses f))=true:=by kernel_rfl
theorem j12 :(let P:=Tryz.prog;let c:=Rows.topTargetsRow;let s:=Rows.topTargetsSpec;let f:=6;let fn:=Tryz.f6;(c.named==P.varsNamed f))=true:=by kernel_rfl
theorem j13 :(let P:=Tryz.prog;let c:=Rows.topTargetsRow;let s:=Rows.topTargetsSpec;let f:=6;let fn:=Tryz.f6;(c.maps==(fn.params.toList++s.plain.varTypes P).any (P.mapsRec ·)))=true:=by kernel_rfl
theorem j14 :(let P:=Tryz.prog;let c:=Rows.topTargetsRow;let s:=Rows.topTargetsSpec;let f:=6;let fn:=Tryz.f6;(c.ifaces==(fn.params.toList++s.plain.varTypes P).any (P.ifacesRec ·)))=true:=by kernel_rfl
theorem j15 :(let P:=Tryz.prog;let c:=Rows.topTargetsRow;let s:=Rows.topTargetsSpec;let f:=6;let fn:=Tryz.f6;(c.mapsOut==P.mapsAmong fn.resultTypes.toList))=true:=by kernel_rfl
theorem j16 :(let P:=Tryz.prog;let c:=Rows.topTargetsRow;let s:=Rows.topTargetsSpec;let f:=6;let fn:=Tryz.f6;(c.loops==(fn.params.toList++s.plain.varTypes P).any (P.loopsFrom ·)))=true:=by kernel_rfl
theorem j17 :(let P:=Tryz.prog;let c:=Rows.topTargetsRow;let s:=Rows.topTargetsSpec;let f:=6;let fn:=Tryz.f6;(c.wideKeys==(fn.params.toList++s.plain.varTypes P++fn.resultTypes.toList).any (P.wideKeysFrom ·)))=true:=by kernel_rfl
theorem j18 :(let P:=Tryz.prog;let c:=Rows.topTargetsRow;let s:=Rows.topTargetsSpec;let f:=6;let fn:=Tryz.f6;s.vars.all (P.varReadable ·))=true:=by kernel_rfl
theorem j19 :(let P:=Tryz.prog;let c:=Rows.topTargetsRow;let s:=Rows.topTargetsSpec;let f:=6;let fn:=Tryz.f6;fn.resultTypes.all (fun t=>P.readableRec t&&decide (t<P.types.size)))=true:=by kernel_rfl
theorem j20 :(let P:=Tryz.prog;let c:=Rows.topTargetsRow;let s:=Rows.topTargetsSpec;let f:=6;let fn:=Tryz.f6;(c.ifacesOut==fn.resultTypes.toList.any (P.ifacesRec ·)))=true:=by kernel_rfl
theorem j21 :(let P:=Tryz.prog;let c:=Rows.topTargetsRow;let s:=Rows.topTargetsSpec;let f:=6;let fn:=Tryz.f6;(c.loopsOut==fn.resultTypes.toList.any (P.loopsFrom ·)))=true:=by kernel_rfl
theorem j22 :(let P:=Tryz.prog;let c:=Rows.topTargetsRow;let s:=Rows.topTargetsSpec;let f:=6;let fn:=Tryz.f6;(c.plainKeys==P.plainKeys))=true:=by kernel_rfl
theorem j23 :(let P:=Tryz.prog;let c:=Rows.topTargetsRow;let s:=Rows.topTargetsSpec;let f:=6;let fn:=Tryz.f6;c.shortTexts.isNone)=true:=by kernel_rfl
theorem j24 :(let P:=Tryz.prog;let c:=Rows.topTargetsRow;let s:=Rows.topTargetsSpec;let f:=6;let fn:=Tryz.f6;P.stopsHeard)=true:=by kernel_rfl
theorem j25 :(let P:=Tryz.prog;let c:=Rows.topTargetsRow;let s:=Rows.topTargetsSpec;let f:=6;let fn:=Tryz.f6;P.mayEnter)=true:=by kernel_rfl
theorem j26 :(let P:=Tryz.prog;let c:=Rows.topTargetsRow;let s:=Rows.topTargetsSpec;let f:=6;let fn:=Tryz.f6;(c.lifted==P.liftsFinal))=true:=by kernel_rfl
theorem j27 :(let P:=Tryz.prog;let c:=Rows.topTargetsRow;let s:=Rows.topTargetsSpec;let f:=6;let fn:=Tryz.f6;(P.make==some c.make))=true:=by kernel_rfl
theorem j28 :(let P:=Tryz.prog;let c:=Rows.topTargetsRow;let s:=Rows.topTargetsSpec;let f:=6;let fn:=Tryz.f6;(c.kinds==(if c.domain.isEmpty then []else fn.params.toList.map fun t=>match P.underlying t with|some (.int k)=>some k|_=>none)))=true:=by kernel_rfl
theorem j29 :(let P:=Tryz.prog;let c:=Rows.topTargetsRow;let s:=Rows.topTargetsSpec;let f:=6;let fn:=Tryz.f6;(c.pinned==c.pinnedBy))=true:=by kernel_rfl
theorem j30 :(let P:=Tryz.prog;let c:=Rows.topTargetsRow;let s:=Rows.topTargetsSpec;let f:=6;let fn:=Tryz.f6;(c.veiled==(fn.params.toList++s.plain.varTypes P++fn.resultTypes.toList).any (P.veiledRec ·)))=true:=by kernel_rfl
theorem j31 :(let P:=Tryz.prog;let c:=Rows.topTargetsRow;let s:=Rows.topTargetsSpec;let f:=6;let fn:=Tryz.f6;c.veiledFits P fn.params.toList (fn.params.toList++s.plain.varTypes P++fn.resultTypes.toList))=true:=by kernel_rfl
end
theorem UM :joinedFacts Tryz.prog 6 Tryz.f6 Rows.topTargetsSpec Rows.topTargetsRow=true:=
 (ig (ig (ig (ig (ig (ig (ig (ig (ig (ig (ig (ig (ig (ig (ig (ig (ig (ig (ig (ig (ig (ig (ig (ig (ig (ig (ig (ig (ig (ig (ig j0 j1) j2) j3) j4) j5) j6) j7) j8) j9) j10) j11) j12) j13) j14) j15) j16) j17) j18) j19) j20) j21) j22) j23) j24) j25) j26) j27) j28) j29) j30) j31)
theorem named6 :Tryz.prog.funcNamed Rows.topTargetsRow.func=some 6:=by kernel_rfl
theorem inst6 :Tryz.f6.isInstance Tryz.prog Rows.topTargetsRow.origin Rows.topTargetsRow.targs:=of_decide_eq_true (by kernel_rfl)
theorem wrap6 :Tryz.f6.isWrapper Tryz.prog Rows.topTargetsRow.wrapper Rows.topTargetsRow.mainSum:=by
 unfold Func.isWrapper;first|(rw [if_pos (by decide+kernel)];kernel_rfl)|(rw [if_neg (by decide+kernel)];exact⟨rfl,rfl⟩)
theorem topTargets_holds :Rows.TopTargetsSaid:=
 OpenClaim.holds_of_wide 6 Tryz.f6 rfl rfl rfl rfl rfl rfl rfl ⟨rfl,rfl,rfl,rfl,rfl⟩ rfl rfl rfl rfl rfl named6 Tryz.func6 UM inst6 wrap6
  (fun os started H enc _=>topTargets_lifted os started H enc)
end Go.Proofs.YtpjiopgakifhaaaGreat
