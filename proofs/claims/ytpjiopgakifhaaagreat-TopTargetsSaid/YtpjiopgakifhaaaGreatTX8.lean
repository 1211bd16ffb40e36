import Derived.Test.YtpjiopgakifhaaaGreatTX
import Derived.Test.YtpjiopgakifhaaaGreatTW
set_option linter.unusedSectionVars false
set_option linter.unusedSimpArgs false
set_option linter.unusedVariables false
set_option maxRecDepth 100000
namespace Go.Proofs.Big
open Go Go.Sx Go.Proofs Go.RowKit Go.Proofs.Top
def lJ :List SV:=[.str [119],I 3,I 0,I 0,I (-400),I 0,I 400,I 8,I 0,I 0,Y 2 0 599,I 3,I 9]
def cH :SV:= .agg [S (I 100),S (I 1),S (I 0),S (I 0),S (I 0),S (I 0),S (I 0),S .aq,S (.aI 13 1 (aY 13 [lJ])),S .aq,S .aq,S .aq,S .aq,S .aq,S .aq,S .aq,S .aq,S .aq]
def bF (x v:SV):SV:= .aI 7 1 (aY 7 [[I 1,I 0,I 0,x,I 0,v,I 0]])
def jB (b:SV):SV:= .aI 1 1 (aY 1 [[b]])
def dX (tk x v k aw:SV) (c:Int):SV:= .agg [S tk,S (bF x v),S k,S k,S (jB aw),S (.int .u32 c)]
def eN (c:Int):SV:= .agg [S (.int .u32 c),S (I 0),S (I 0)]
def fX (tk x v aw:SV) (coils:Int) (hits:SV) (cl:Int):SV:= .bp [.agg [S tk,S (bF x v),S .emp,S .emp,S (jB aw),S (.int .u32 coils)], .agg [S hits,S (.int .u64 cl),S .aq,S (I 0)],I 0]
def lA :SV:= .aI 5 1 (aY 5 [[I 1,I 0,I 1,I 0,vY]])
def pA :SV:=Y 3 0 200
def xk :SV:= .sy .i64 (.add (.v 3) (.c 1)) 1 201
def xv (lo hi:Int):SV:= .sy .i64 (.add (.v 0) (.v 1)) lo hi
def Iv (e:XE) (hi:Int):Nat×List SV×SV:=(197,[.sy .i64 e 80800 hi,I 100,I 640000], .ff)
def bx :XE:= .sub (.c 0) (.mul (.v 0) (.c 800))
noncomputable def XH [bW] (H:HT) (l:List (Nat×List SV×SV)):DX:=⟨XW.P,XW.I,(XW.more l).D,H⟩
theorem ui [bW] {H:HT} {l:List (Nat×List SV×SV)} (hH:yf H) (hl:A8 Tryz.prog l):An (XH H l):=⟨okW.I,(An.more okW hl).D,hH⟩
theorem m44 [bW]:cF XW 3000 44 Tryz.f44 [cH] (I 0)=true:=by kernel_rfl
def chkF :Nat×List SV×SV:=(44,[cH],I 0)
theorem chk_fact [bW]:Fact Tryz.prog 44 [cH] (I 0):=au okW hm (by kernel_rfl) m44
def xF :SV:=Y 0 (-1000) (-101)
def xB :SV:=Y 0 (-20000) (-101)
def vB :SV:=Y 1 (-279) (-30)
def xA :SV:=Y 0 (-1000) 25000
def xU :SV:=Y 0 101 25000
def Uj :SV:=dX (I 0) (I (-1000)) vY .aq .ff 0
def staE :SV:=dX (I 0) (I (-1000)) vY .emp .ff 0
def l4 :SV:=dX pA xF vY .emp .ff 0
def B3 :SV:=dX pA (I (-100)) vY .emp .ff 0
def Dl :SV:=dX pA xB vB .emp .ff 0
def staB8 :SV:=dX pA xB vB .emp .ff 8
def Tb :SV:=dX pA xA vY .emp .tt 0
def V8 :SV:=dX pA xU vY .emp .tt 0
def staU8 :SV:=dX pA xU vY .emp .ff 8
def Cm (s:SV):Nat×List SV×SV:=(28,[cH,s],I 0)
def hS :XE:= .add (.v 0) (.v 1)
def hD :XE:= .sub (.v 1) (.v 2)
def hQ :XE:= .add (.mul (.v 0) (.c 256)) (.mul (.mul (.v 5) (.c 16)) (.v 1))
def am276 :List SV:=[.agg [S vY,S (I 0)], .agg [S (I 0),S (I 0)], .agg [S (I (-1)),S (I 0)]]
def fRes :List (Nat×List SV×SV):=[(216,me216,re216),(276,am276,vY)]
def fRt :List (Nat×List SV×SV):=[(167,[w3S 0],rtR),(209,[rtA 7], .tt),(210,[rtA 7],rtA 10),(325,[rtA 7], .bp [Y 5 0 15,I 0])]
def fTouch :List (Nat×List SV×SV):=Cm l4::((167,[w3S 0],noR)::Pg xF vY 0)
def fHit :List (Nat×List SV×SV):=Cm l4::(fRt++(fRes++Pg xF vY 0))
def fHit0 :List (Nat×List SV×SV):=Cm B3::(167,[w3S 0],zeR)::(167,[w3S 11],noR)::(fRes++(Pg (I (-100)) vY 0++Pg (I (-100)) vA 11))
def hM (b:Bool):XE×Int×Int:=match b with
 |true=>(hD,0,600)
 |false=>(hD,-600,-1)
def aO (b:Bool):SV:=match b with
 |true=> .tt
 |false=> .ff
def A4 (b:Bool):Int:=match b with
 |true=>512
 |false=>0
noncomputable def X1 [bW]:DX:=XH [] [Cm Uj,Cm staE]
noncomputable def X2 [bW]:DX:=XH [(hS,-1000,-101)] [Cm l4]
noncomputable def X3 [bW]:DX:=XH [(hS,-100,-100)] fTouch
noncomputable def X4 [bW] (b:Bool):DX:=XH [(hQ,-256000,-1),(hS,-99,458),hM b] fHit
noncomputable def X6 [bW]:DX:=XH [] [Cm Dl,Cm staB8]
noncomputable def X7 [bW]:DX:=XH [] [Cm Tb]
noncomputable def X8 [bW]:DX:=XH [] [Iv (.sub (.c 0) bx) 20000000,Cm V8,Cm staU8]
def o1 :SV:=fX (I 1) (.sy .i64 (.add (.c (-1000)) (.v 1)) (-940) (-441)) vY .ff 0 .aq 0
def o2 :SV:=fX xk (xv (-940) (-101)) vY .ff 0 .aq 0
def o3 :SV:=fX xk (I (-100)) vY .ff 0 .aq 0
def o4 (b:Bool):SV:=fX xk (.sy .i64 (.add (.v 0) (.v 4)) (-1279) (-131)) vA (aO b) 0 lA (A4 b)
def o5 (b:Bool):SV:=fX xk (.sy .i64 (.add (.c (-100)) (.v 4)) (-379) (-130)) vA (aO b) 0 lA (A4 b)
def o6 (c:Int):SV:=fX xk (xv (-20279) (-131)) vB .ff c .aq 0
def o7 :SV:=fX xk (xv (-940) 25559) vY .tt 0 .aq 512
def o8 :SV:=fX xk (xv 161 25559) vY .ff 8 .aq 0
def zeA :SV:= .agg [S (.aI 2 2 (aY 2 [[.ff,e1],[.ff,kd 1]])),S .ff,S e1,S (I 0),S .ff,S e1,S (I 0)]
def q0 :ao:=([0,1],(0,0),(0,0))
section
variable [bW]
theorem w_ze :oZ (nS q0) zeA:=by
 have hp:oZ (pS [0,1]) (.aI 2 2 (aY 2 [[.ff,e1],[.ff,kd 1]])):=sc (es:=2) (n:=2) fun i hi=>by
  rcases(show i=0\/i=1 by omega)with rfl|rfl
  . exact⟨At (by show(0:Int)<=0;omega),Gq,trivial⟩
  . refine⟨At (by show(0:Int)<=1;omega),?_,trivial⟩;show oZ (Av (aF .u32) (dz 1)) (kd 1)
    rw [oA (by omega) (by omega)];exact sc (es:=1) (n:=1) fun j hj=>by
     have:j=0:=by omega
     subst this;exact⟨oZ.refl _,trivial⟩
 exact sG (l:=ei.enc q0) (m:=[.aI 2 2 (aY 2 [[.ff,e1],[.ff,kd 1]]), .ff,e1,I 0, .ff,e1,I 0]) ⟨hp,At (by show(0:Int)<=0;omega),Gq,Re,At (by show(0:Int)<=0;omega),Gq,Re,trivial⟩
theorem dc_0 {d:Nat}:DC aj (d+2) [.ff,e1] 0:=Ax (.inl rfl) (ml (l:=[]) rfl rfl fun i hi=>by omega) gz.symm (fun _=>by omega) (fun e=>by cases e)
theorem da_ze :DA MA zeA q0:=by
 have hz:=dc_n (d:=12) (q:=q0) (p:= .aI 2 2 (aY 2 [[.ff,e1],[.ff,kd 1]])) (ml rfl rfl fun i hi=>by
  rcases(show i=0\/i=1 by omega)with rfl|rfl
  . exact dc_0
  . exact dc_k (by omega) (by omega)) (LS dc_0 FQ) (LS dc_0 FQ)
 refine⟨_,?_,hz.2⟩;show oB (ei.dec ([.aI 2 2 (aY 2 [[.ff,e1],[.ff,kd 1]]), .ff,e1,I 0, .ff,e1,I 0].map (iF 13))) (fun a=>some (ei.ak ([.aI 2 2 (aY 2 [[.ff,e1],[.ff,kd 1]]), .ff,e1,I 0, .ff,e1,I 0].map (iF 13)),a))=_
 rw [hz.1];rfl
theorem ck_ze :vF q0=true/\cM q0=q0/\kX q0=0:=⟨by kernel_rfl,by kernel_rfl,by kernel_rfl⟩
theorem facts_ze :A8 Tryz.prog [(209,[zeA], .tt),(210,[zeA],zeA),(325,[zeA], .bp [I 0,I 0])]:=by
 obtain⟨c1,c2,c3⟩:=ck_ze;obtain⟨q1,q2,q3,q4,q5⟩:=EE c1;refine .cons (eM k209.1 da_ze q2 rfl w_b)<| .cons (eM k210.1 da_ze q3 rfl ?_)<| .cons (eM k325.1 da_ze q1 rfl ?_) .nil
 . show oZ (nS (cM q0)) zeA
   rw [c2];exact w_ze
 . show oZ (.bp [iS (kX q0),iS 0]) _
   rw [c3];exact oZ.refl _
end
def fZe :List (Nat×List SV×SV):=[(209,[zeA], .tt),(210,[zeA],zeA),(325,[zeA], .bp [I 0,I 0])]
def motT (v:SV):SV:= .aI 6 1 (aY 6 [[I (-100),I 0,v,I 0,I 0,I 0]])
def conT :SV:= .aI 10 1 (aY 10 [[I 0,I 1,I 0, .aI 2 2 (aY 2 [[.ff,e1],[.ff,kd 1]]), .ff,e1,I 0, .ff,e1,I 0]])
def D0 (v:SV):List SV:=[cH,B3,motT v, .emp]
noncomputable def X5b [bW]:DX:=XH [] fHit0
theorem mA1 [bW]:cF X5b 2000 141 Tryz.f141 (D0 vY) (.bp [conT,I 0])=true:=by kernel_rfl
theorem mA2 [bW]:cF X5b 2000 141 Tryz.f141 (D0 vA) (.bp [.aq,I 0])=true:=by kernel_rfl
def fAll :List (Nat×List SV×SV):=[(141,D0 vY, .bp [conT,I 0]),(141,D0 vA, .bp [.aq,I 0])]
noncomputable def X5a [bW] (b:Bool):DX:=XH [hM b] (fAll++(fZe++fHit0))
end Go.Proofs.Big
namespace Go.Proofs.Big
open Go Go.Sx Go.Proofs Go.RowKit Go.Proofs.Top
noncomputable def XV [bW] (l:List (Nat×List SV×SV)):DX:=XH [] (chkF::l)
theorem vm0 [bW]:cF (XV []) 2000 28 Tryz.f28 [cH,Uj] (I 0)=true:=by kernel_rfl
theorem vmE [bW]:cF (XV []) 2000 28 Tryz.f28 [cH,staE] (I 0)=true:=by kernel_rfl
theorem vmF [bW]:cF (XV [Iv bx 800000]) 2000 28 Tryz.f28 [cH,l4] (I 0)=true:=by kernel_rfl
theorem vmZ [bW]:cF (XV []) 2000 28 Tryz.f28 [cH,B3] (I 0)=true:=by kernel_rfl
theorem vmB [bW]:cF (XV [Iv bx 16000000]) 2000 28 Tryz.f28 [cH,Dl] (I 0)=true:=by kernel_rfl
theorem vmB8 [bW]:cF (XV [Iv bx 16000000]) 2000 28 Tryz.f28 [cH,staB8] (I 0)=true:=by kernel_rfl
theorem vmA [bW]:cF (XV []) 2000 28 Tryz.f28 [cH,Tb] (I 0)=true:=by kernel_rfl
theorem vmU [bW]:cF (XV []) 2000 28 Tryz.f28 [cH,V8] (I 0)=true:=by kernel_rfl
theorem vmU8 [bW]:cF (XV [Iv (.sub (.c 0) bx) 20000000]) 2000 28 Tryz.f28 [cH,staU8] (I 0)=true:=by kernel_rfl
end Go.Proofs.Big
