/-
  TopLanes: for every input the law returns true, and each argument reads afterwards as it did. Conditions: none.
-/
import Derived.Test.YtpjiopgakifhaaaGreatZY
import Derived.Test.YtpjiopgakifhaaaGreatZD
import Derived.Test.YtpjiopgakifhaaaGreatRows
import Derived.Test.YtpjiopgakifhaaaGreatChecked
namespace Go.Proofs.YtpjiopgakifhaaaGreat
set_option linter.unusedVariables false
set_option linter.unusedSimpArgs false
open Go Go.Sx Go.Proofs Go.RowKit Go.ChangeShapes Go.WideShapes Go.ChangeAt
set_option maxRecDepth 100000
theorem own :ownKnob Tryz.prog.godebug=none:=by kernel_rfl
theorem laidOut :laidOutB Tryz.prog=true:=by kernel_rfl
@[reducible] def X1 :bW:=⟨fun _=>0,fun _=> .aI 1 0 fun _=>[],fun _=>rfl⟩
theorem HF (w:World):Calls Tryz.prog 7 #[] w fun e w'=>e= .returned (.bool true)/\Below w.heap.size w w':=by
 letI:=X1
 refine(Pl.J4.calls [] True .tt (by kernel_rfl) trivial (qG w) w #[] (fun _ _ _ h=>h) trivial).mono ?_
 rintro e w' ⟨v,R',rfl,h2,h3,h4,h5,h6⟩
 cases h2
 exact⟨rfl,h6⟩
theorem topLanes_lifted (os:Os) (started:os.Started) (H:Type) (enc:TypeId×Value->H):
 ReturnsInHanded {} Tryz.checked os 5 .any (Rows.topLanesSpec.pre6 enc Tryz.prog Tryz.f5 Rows.topLanesRow.domain false) (Rows.topLanesSpec.post enc Tryz.prog Tryz.f5 false true false false):=by
 letI:=X1
 refine GV (C:=Tryz.checked) (tb:=4) started own laidOut (by kernel_rfl) Tryz.func5 rfl (by kernel_rfl) Tryz.underlying4 ?_ (by kernel_rfl) (by kernel_rfl)
  (ChangeSpec.witness6 (enc:=enc) (C:=Tryz.checked) false ⟨#[], #[.slice none 0 0, .int .i64 0],[]⟩ 8 (by kernel_rfl) (by kernel_rfl) (by kernel_rfl) (by kernel_rfl)) ?_
 . intro ds h
   have h:ds.length=2:=by rw [h];kernel_rfl
   match ds,h with
   |[d0,d1],_=>rfl
 . intro W xs args h hrel
   rw [show(Tryz.f5.params.toList)=[22,3] by kernel_rfl]at h
   obtain⟨l,x0,r0,rfl,l0,m0,w0,h⟩:=PD (C:=aF .i64) h (by kernel_rfl) (by kernel_rfl) Nv (by kernel_rfl)
   obtain⟨n,r1,rfl,w1,h⟩:=open_int (ik:= .i64) h (by kernel_rfl) (by kernel_rfl)
   cases h
   obtain⟨a,len,cap,ha,hlen,hrow⟩: ∃a len cap,args= #[.slice a len cap, .int .i64 n]/\len<=9223372036854775807/\ ∀j,j<len-> ∃B o x,a=some ⟨B,o,none⟩/\W.cell? ⟨B,o+j,none⟩=some (.int .i64 x):=by
    obtain⟨al⟩:=args
    match al,hrel with
    |[v0,v1],⟨h0,h1,_⟩=>
     rw [aK h1]
     rcases dE (l0 _ _ h0)with⟨hl,A,cap,hv⟩|⟨b,k0,cap,vs,hv,hcap,hl,hm,hh⟩
     . rw [hv];exact⟨A,0,cap,rfl,by omega,fun j hj=>absurd hj (Nat.not_lt_zero j)⟩
     . rw [hv]
       refine⟨_,_,cap,rfl,m0,fun j hj=>⟨b,k0,l.getD j 0,rfl,?_⟩⟩
       have e1:=hm j (by show j<l.length*1;omega)
       have e2:=hh j 0 (.int .i64 (l.getD j 0)) hj rfl
       rw [show j*(aF .i64).n+0=j by show j*1+0=j;omega]at e2
       rw [<-aK e2];exact e1
   subst ha
   refine(Big.Gy n hlen hrow HF).mono ?_
   rintro e w' ⟨rfl,hB⟩
   exact⟨.bool true,qG W,rfl, .tt _, .refl _,fun b o v hv=>(hB.cell (p:=⟨b,o,none⟩) (Top.Dh hv)).trans hv,fun _ _ _=>rfl,hB⟩
theorem ig {a b:Bool} (h:a=true) (k:b=true):(a&&b)=true:=by rw [h,k];rfl
section
theorem j0 :(let P:=Tryz.prog;let c:=Rows.topLanesRow;let s:=Rows.topLanesSpec;let f:=5;let fn:=Tryz.f5;c.wf (OpenSpec.ofChange s))=true:=by kernel_rfl
theorem j1 :laidOutB Tryz.prog=true:=laidOut
theorem j2 :(let P:=Tryz.prog;let c:=Rows.topLanesRow;let s:=Rows.topLanesSpec;let f:=5;let fn:=Tryz.f5;mapsRowed P)=true:=by kernel_rfl
theorem j3 :(let P:=Tryz.prog;let c:=Rows.topLanesRow;let s:=Rows.topLanesSpec;let f:=5;let fn:=Tryz.f5;fn.params.all (P.readableRec ·))=true:=by kernel_rfl
theorem j4 :(let P:=Tryz.prog;let c:=Rows.topLanesRow;let s:=Rows.topLanesSpec;let f:=5;let fn:=Tryz.f5;namedTie P c.named s.vars)=true:=by kernel_rfl
theorem j5 :(let P:=Tryz.prog;let c:=Rows.topLanesRow;let s:=Rows.topLanesSpec;let f:=5;let fn:=Tryz.f5;(c.stops==[]))=true:=by kernel_rfl
theorem j6 :(let P:=Tryz.prog;let c:=Rows.topLanesRow;let s:=Rows.topLanesSpec;let f:=5;let fn:=Tryz.f5;(P.stops==[]))=true:=by kernel_rfl
theorem j7 :(let P:=Tryz.prog;let c:=Rows.topLanesRow;let s:=Rows.topLanesSpec;let f:=5;let fn:=Tryz.f5;(c.knobs==[]))=true:=by kernel_rfl
theorem j8 :(let P:=Tryz.prog;let c:=Rows.topLanesRow;let s:=Rows.topLanesSpec;let f:=5;let fn:=Tryz.f5;(P.stopKnobs==[]))=true:=by kernel_rfl
theorem j9 :(let P:=Tryz.prog;let c:=Rows.topLanesRow;let s:=Rows.topLanesSpec;let f:=5;let fn:=Tryz.f5;(c.inPlace==P.inPlace f))=true:=by kernel_rfl
theorem j10 :(let P:=Tryz.prog;let c:=Rows.topLanesRow;let s:=Rows.topLanesSpec;let f:=5;let fn:=Tryz.f5;(c.unfollowed==P.unfollowed f))=true:=by kernel_rfl
theorem j11 :(let P:=Tryz.prog;let c:=Rows.topLanesRow;let s:=Rows.topLanesSpec;let f:=5;let fn:=Tryz.f5;(c.recurses==P.recurses f))=true:=by kernel_rfl
theorem j12 :(let P:=Tryz.prog;let c:=Rows.topLanesRow;let s:=Rows.topLanesSpec;let f:=5;let fn:=Tryz.f5;(c.named==P.varsNamed f))=true:=by kernel_rfl
theorem j13 :(let P:=Tryz.prog;let c:=Rows.topLanesRow;let s:=Rows.topLanesSpec;let f:=5;let fn:=Tryz.f5;(c.maps==(fn.params.toList++s.plain.varTypes P).any (P.mapsRec ·)))=true:=by kernel_rfl
theorem j14 :(let P:=Tryz.prog;let c:=Rows.topLanesRow;let s:=Rows.topLanesSpec;let f:=5;let fn:=Tryz.f5;(c.ifaces==(fn.params.toList++s.plain.varTypes P).any (P.ifacesRec ·)))=true:=by kernel_rfl
theorem j15 :(let P:=Tryz.prog;let c:=Rows.topLanesRow;let s:=Rows.topLanesSpec;let f:=5;let fn:=Tryz.f5;(c.mapsOut==P.mapsAmong fn.resultTypes.toList))=true:=by kernel_rfl
theorem j16 :(let P:=Tryz.prog;let c:=Rows.topLanesRow;let s:=Rows.topLanesSpec;let f:=5;let fn:=Tryz.f5;(c.loops==(fn.params.toList++s.plain.varTypes P).any (P.loopsFrom ·)))=true:=by kernel_rfl
theorem j17 :(let P:=Tryz.prog;let c:=Rows.topLanesRow;let s:=Rows.topLanesSpec;let f:=5;let fn:=Tryz.f5;(c.wideKeys==(fn.params.toList++s.plain.varTypes P++fn.resultTypes.toList).any (P.wideKeysFrom ·)))=true:=by kernel_rfl
theorem j18 :(let P:=Tryz.prog;let c:=Rows.topLanesRow;let s:=Rows.topLanesSpec;let f:=5;let fn:=Tryz.f5;s.vars.all (P.varReadable ·))=true:=by kernel_rfl
theorem j19 :(let P:=Tryz.prog;let c:=Rows.topLanesRow;let s:=Rows.topLanesSpec;let f:=5;let fn:=Tryz.f5;fn.resultTypes.all (fun t=>P.readableRec t&&decide (t<P.types.size)))=true:=by kernel_rfl
theorem j20 :(let P:=Tryz.prog;let c:=Rows.topLanesRow;let s:=Rows.topLanesSpec;let f:=5;let fn:=Tryz.f5;(c.ifacesOut==fn.resultTypes.toList.any (P.ifacesRec ·)))=true:=by kernel_rfl
theorem j21 :(let P:=Tryz.prog;let c:=Rows.topLanesRow;let s:=Rows.topLanesSpec;let f:=5;let fn:=Tryz.f5;(c.loopsOut==fn.resultTypes.toList.any (P.loopsFrom ·)))=true:=by kernel_rfl
theorem j22 :(let P:=Tryz.prog;let c:=Rows.topLanesRow;let s:=Rows.topLanesSpec;let f:=5;let fn:=Tryz.f5;(c.plainKeys==P.plainKeys))=true:=by kernel_rfl
theorem j23 :(let P:=Tryz.prog;let c:=Rows.topLanesRow;let s:=Rows.topLanesSpec;let f:=5;let fn:=Tryz.f5;c.shortTexts.isNone)=true:=by kernel_rfl
theorem j24 :(let P:=Tryz.prog;let c:=Rows.topLanesRow;let s:=Rows.topLanesSpec;let f:=5;let fn:=Tryz.f5;P.stopsHeard)=true:=by kernel_rfl
theorem j25 :(let P:=Tryz.prog;let c:=Rows.topLanesRow;let s:=Rows.topLanesSpec;let f:=5;let fn:=Tryz.f5;P.mayEnter)=true:=by kernel_rfl
theorem j26 :(let P:=Tryz.prog;let c:=Rows.topLanesRow;let s:=Rows.topLanesSpec;let f:=5;let fn:=Tryz.f5;(c.lifted==P.liftsFinal))=true:=by kernel_rfl
theorem j27 :(let P:=Tryz.prog;let c:=Rows.topLanesRow;let s:=Rows.topLanesSpec;let f:=5;let fn:=Tryz.f5;(P.make==some c.make))=true:=by kernel_rfl
theorem j28 :(let P:=Tryz.prog;let c:=Rows.topLanesRow;let s:=Rows.topLanesSpec;let f:=5;let fn:=Tryz.f5;(c.kinds==(if c.domain.isEmpty then []else fn.params.toList.map fun t=>match P.underlying t with|some (.int k)=>some k|_=>none)))=true:=by kernel_rfl
theorem j29 :(let P:=Tryz.prog;let c:=Rows.topLanesRow;let s:=Rows.topLanesSpec;let f:=5;let fn:=Tryz.f5;(c.pinned==c.pinnedBy))=true:=by kernel_rfl
theorem j30 :(let P:=Tryz.prog;let c:=Rows.topLanesRow;let s:=Rows.topLanesSpec;let f:=5;let fn:=Tryz.f5;(c.veiled==(fn.params.toList++s.plain.varTypes P++fn.resultTypes.toList).any (P.veiledRec ·)))=true:=by kernel_rfl
theorem j31 :(let P:=Tryz.prog;let c:=Rows.topLanesRow;let s:=Rows.topLanesSpec;let f:=5;let fn:=Tryz.f5;c.veiledFits P fn.params.toList (fn.params.toList++s.plain.varTypes P++fn.resultTypes.toList))=true:=by kernel_rfl
end
theorem UM :joinedFacts Tryz.prog 5 Tryz.f5 Rows.topLanesSpec Rows.topLanesRow=true:=
 (ig (ig (ig (ig (ig (ig (ig (ig (ig (ig (ig (ig (ig (ig (ig (ig (ig (ig (ig (ig (ig (ig (ig (ig (ig (ig (ig (ig (ig (ig (ig j0 j1) j2) j3) j4) j5) j6) j7) j8) j9) j10) j11) j12) j13) j14) j15) j16) j17) j18) j19) j20) j21) j22) j23) j24) j25) j26) j27) j28) j29) j30) j31)
theorem W9 :Tryz.prog.funcNamed Rows.topLanesRow.func=some 5:=by kernel_rfl
theorem inst5 :Tryz.f5.isInstance Tryz.prog Rows.topLanesRow.origin Rows.topLanesRow.targs:=of_decide_eq_true (by kernel_rfl)
theorem ZX :Tryz.f5.isWrapper Tryz.prog Rows.topLanesRow.wrapper Rows.topLanesRow.mainSum:=by
 unfold Func.isWrapper;first|(rw [if_pos (by decide+kernel)];kernel_rfl)|(rw [if_neg (by decide+kernel)];exact⟨rfl,rfl⟩)
theorem topLanes_holds :Rows.TopLanesSaid:=
 OpenClaim.holds_of_wide 5 Tryz.f5 rfl rfl rfl rfl rfl rfl rfl ⟨rfl,rfl,rfl,rfl,rfl⟩ rfl rfl rfl rfl rfl W9 Tryz.func5 UM inst5 ZX
  (fun os started H enc _=>topLanes_lifted os started H enc)
end Go.Proofs.YtpjiopgakifhaaaGreat
