import Derived.Test.YtpjiopgakifhaaaGreatRA
import Derived.Test.YtpjiopgakifhaaaGreatRG
import Derived.Test.YtpjiopgakifhaaaGreatRT
import Derived.Test.YtpjiopgakifhaaaGreatRI
set_option linter.unusedSectionVars false
set_option linter.unusedSimpArgs false
set_option linter.unusedVariables false
set_option maxRecDepth 100000
namespace Go.Proofs.Big
open Go Go.Sx Go.Proofs Go.RowKit
def mr(z:Int):Bool:=Nat.ble (dz z).length 1000000
theorem de{z:Int}(h:mr z=true):fit z:=by
 unfold mr at h;unfold fit;exact Qk h
theorem Uz(k:Nat):((2^k:Nat):Int)=(2:Int)^k:=Int.natCast_pow 2 k
def Ru(k:Nat):Nat:=2^(32*k)
theorem AN[bW](k:Nat):((Ru k:Nat):Int)=pw k:=by
 unfold Ru;rw[fE];exact Uz _
def gJ(p:Ω):Bool:=Nat.ble p.length 200&&p.all λz=>decide (z.natAbs<Ru 100)
theorem cI[bW]{p:Ω}(h:gJ p=true):bj 100 p/\p.length<=200:=by
 unfold gJ at h;simp only[J2]at h;obtain⟨b,c⟩:=h;have b:=Qk b;refine⟨jd (by omega) λz d=>?_,b⟩;have:=KB (Js.1 c z d);rw[<-AN];exact Z5.2 this
end Go.Proofs.Big
namespace Go.Proofs.Big
open Go Go.Sx Go.Proofs Go.RowKit Tryz
variable [bW]
def yB(y:Int×Int):Bool:=decide (y.1.natAbs<Ru 100)&&decide (0<=y.2)&&decide (y.2<=32000)
theorem yg{y:Int×Int}(h:yB y=true):dp y/\(y.1.natAbs:Int)<pw 1000/\0<=y.2/\y.2<=32000:=by
 unfold yB at h;simp only[J2,JG]at h;obtain⟨⟨c,d⟩,i⟩:=h;have e:(y.1.natAbs:Int)<pw 100:=by rw[<-AN];exact Z5.2 c
 have:=gT (a:=100) (b:=1000) (by omega);have:=gT (a:=100) (b:=10000) (by omega);unfold dp;omega
theorem YO{p:Ω}{y:Int×Int}(h:gJ p=true)(k:yB y=true)(b:p.length<=100:=by omega):bM p y:=by
 unfold bM;exact⟨an (cI h).1 (by omega),b,(yg k).2.1,(yg k).2.2.1,(yg k).2.2.2⟩
def Rl(n:Int):Bool:=decide (-9223372036854775808<=n)&&decide (n<=9223372036854775807)
theorem i64B_ok{n:Int}(h:Rl n=true):fN n:=by
 unfold Rl at h;simp only[J2,JG]at h;unfold fN;omega
def Du(n:Int):Bool:=decide (0<=n)&&decide (n<=100000)
theorem BB{n:Int}(h:Du n=true):di n:=by
 unfold Du at h;simp only[J2,JG]at h;unfold di;omega
def D229:List SV->Option SV:=dF Hs (λa=>gJ a.1&&gJ a.2) (λa=>pS (dJ a.1 a.2))
theorem d229:cS prog 229 λargs=>(D229 args).map λr=>(True,r):=eQ Uc.1 (cV (fJ _) (cx (fJ _))) (λa h=>by
 simp only[J2]at h;exact⟨an (cI h.1).1 (by omega),an (cI h.2).1 (by omega)⟩) (λ_=>rfl)
def YX:List SV->Option SV:=dF Hs (λa=>gJ a.1&&gJ a.2) (λa=>pS (dZ a.1 a.2))
theorem d289:cS prog 289 λargs=>(YX args).map λr=>(True,r):=eQ UL.1 (cV (fJ _) (cx (fJ _))) (λa h=>by
 simp only[J2]at h;exact⟨an (cI h.1).1 (by omega),an (cI h.2).1 (by omega)⟩) (λ_=>rfl)
def D292:List SV->Option SV:=dF Hs (λa=>gJ a.1&&gJ a.2) (λa=>pS (bX a.1 a.2))
theorem d292:cS prog 292 λargs=>(D292 args).map λr=>(True,r):=eQ WJ.1 (cV (fJ _) (cx (fJ _))) (λa h=>by
 simp only[J2]at h;have:=(cI h.1).2;have:=(cI h.2).2;exact⟨an (cI h.1).1 (by omega),an (cI h.2).1 (by omega),by omega⟩) (λ_=>rfl)
def ZA:List SV->Option SV:=dF sP (λa=>gJ a) (λa=>pS (dH a))
theorem d290:cS prog 290 λargs=>(ZA args).map λr=>(True,r):=eQ Zz.1 (cx (fJ _)) (λa h=>bu (cI h).1 (by omega)) (λ_=>rfl)
def D254:List SV->Option SV:=dF sP (λa=>gJ a) (λa=>iS ((tl a:Int)-1))
theorem d254:cS prog 254 λargs=>(D254 args).map λr=>(True,r):=eQ Yk.1 (cx (fJ _)) (λa h=>bu (cI h).1 (by omega)) (λ_=>rfl)
def ZP:List SV->Option SV:=dF sP (λa=>gJ a) (λa=>pS (iN a))
theorem d310:cS prog 310 λargs=>(ZP args).map λr=>(True,r):=eQ YY.1 (cx (fJ _)) (λa h=>bu (cI h).1 (by omega)) (λ_=>rfl)
def Yo:List SV->Option SV:=dF sP (λa=>gJ a) (λa=>pS (aX a))
theorem d308:cS prog 308 λargs=>(Yo args).map λr=>(True,r):=eQ YJ.1 (cx (fJ _)) (λa h=>an (cI h).1 (by omega)) (λ_=>rfl)
def YM:List SV->Option SV:=dF sP (λa=>gJ a) (λa=>iS (gj a))
theorem d351:cS prog 351 λargs=>(YM args).map λr=>(True,r):=eQ aab.1 (cx (fJ _)) (λa h=>bu (cI h).1 (by omega)) (λ_=>rfl)
def ZC:List SV->Option SV:=dF sZ (λa=>mr a) (λa=>iS (aW a))
theorem d287:cS prog 287 λargs=>(ZC args).map λr=>(True,r):=eQ k287.1 (cx (i9 _)) (λa h=>de h) (λ_=>rfl)
def D284:List SV->Option SV:=dF sZ (λa=>mr a) (λa=>iS (bl a))
theorem d284:cS prog 284 λargs=>(D284 args).map λr=>(True,r):=eQ aag.1 (cx (i9 _)) (λa h=>de h) (λ_=>rfl)
def D306:List SV->Option SV:=dF sZ (λa=>mr a) (λa=>zS a)
theorem d306:cS prog 306 λargs=>(D306 args).map λr=>(True,r):=eQ XG.1 (cx (i9 _)) (λa h=>de h) (λ_=>rfl)
def D355:List SV->Option SV:=dF sZ (λa=>mr a) (λa=>zS (-a))
theorem d355:cS prog 355 λargs=>(D355 args).map λr=>(True,r):=eQ k355.1 (cx (i9 _)) (λa h=>de h) (λ_=>rfl)
def D363:List SV->Option SV:=dF sZ (λa=>mr a) (λa=>zS (a.natAbs:Int))
theorem d363:cS prog 363 λargs=>(D363 args).map λr=>(True,r):=eQ k363.1 (cx (i9 _)) (λa h=>de h) (λ_=>rfl)
def D302:List SV->Option SV:=dF DK (λa=>mr a.1&&mr a.2) (λa=>iS (aW (a.1-a.2)))
theorem d302:cS prog 302 λargs=>(D302 args).map λr=>(True,r):=eQ ZT.1 (cV (i9 _) (cx (i9 _))) (λa h=>by
 simp only[J2]at h;exact⟨de h.1,de h.2⟩) (λ_=>rfl)
def XX:List SV->Option SV:=dF DK (λa=>mr a.1&&mr a.2) (λa=>zS (a.1+a.2))
theorem d304:cS prog 304 λargs=>(XX args).map λr=>(True,r):=eQ k304.1 (cV (i9 _) (cx (i9 _))) (λa h=>by
 simp only[J2]at h;exact⟨de h.1,de h.2⟩) (λ_=>rfl)
def D305:List SV->Option SV:=dF DK (λa=>mr a.1&&mr a.2) (λa=>zS (a.1*a.2))
theorem d305:cS prog 305 λargs=>(D305 args).map λr=>(True,r):=eQ k305.1 (cV (i9 _) (cx (i9 _))) (λa h=>by
 simp only[J2]at h;exact⟨de h.1,de h.2⟩) (λ_=>rfl)
def D364:List SV->Option SV:=dF DK (λa=>mr a.1&&mr a.2) (λa=>zS (a.1-a.2))
theorem d364:cS prog 364 λargs=>(D364 args).map λr=>(True,r):=eQ k364.1 (cV (i9 _) (cx (i9 _))) (λa h=>by
 simp only[J2]at h;exact⟨de h.1,de h.2⟩) (λ_=>rfl)
def ZK:List SV->Option SV:=dF sPY (λa=>(gJ a.1&&Nat.ble a.1.length 100)&&yB a.2) (λa=>iS (aW (cY a.1 a.2)))
theorem d257:cS prog 257 λargs=>(ZK args).map λr=>(True,r):=eQ k257.1 (cV (fJ _) (cx (i9 _))) (λa h=>by
 simp only[J2]at h;exact YO h.1.1 h.2 (Qk h.1.2)) (λ_=>rfl)
def D256:List SV->Option SV:=dF sYY (λa=>yB a.1&&yB a.2) (λa=>iS (aW (dd a.1 a.2)))
theorem d256:cS prog 256 λargs=>(D256 args).map λr=>(True,r):=eQ ZO.1 (cV (i9 _) (cx (i9 _))) (λa h=>by
 simp only[J2]at h;exact⟨(yg h.1).1,(yg h.2).1⟩) (λ_=>rfl)
def D315:List SV->Option SV:=dF sYY (λa=>yB a.1&&yB a.2) (λa=>yS (dj a.1 a.2))
theorem d315:cS prog 315 λargs=>(D315 args).map λr=>(True,r):=eQ k315.1 (cV (i9 _) (cx (i9 _))) (λa h=>by
 simp only[J2]at h;exact⟨(yg h.1).1,(yg h.2).1⟩) (λ_=>rfl)
def ZV:List SV->Option SV:=dF sP (λa=>gJ a&&Nat.ble a.length 3) (λa=>.df [.bool (vY a),.bool (vJ a)])
theorem d350:cS prog 350 λargs=>(ZV args).map λr=>(True,r):=eQ k350.1 (cx (fJ _)) (λa h=>by
 simp only[J2]at h;unfold eO;exact⟨(cI h.1).1,Jn (Qk h.2) (by omega)⟩) (λ_=>rfl)
def Yl:List SV->Option SV:=dF T0 (λa=>mr a.1&&Du a.2) (λa=>zS (a.1*2^a.2.toNat))
theorem d303:cS prog 303 λargs=>(Yl args).map λr=>(True,r):=eQ XN.1 (cV (i9 _) (cx (B7 _))) (λa h=>by
 simp only[J2]at h;exact⟨de h.1,BB h.2⟩) (λ_=>rfl)
def D394:List SV->Option SV:=dF T0 (λa=>mr a.1&&Du a.2) (λa=>zS (a.1/2^a.2.toNat))
theorem d394:cS prog 394 λargs=>(D394 args).map λr=>(True,r):=eQ aal.1 (cV (i9 _) (cx (B7 _))) (λa h=>by
 simp only[J2]at h;exact⟨de h.1,BB h.2⟩) (λ_=>rfl)
def D291:List SV->Option SV:=dF sI (λa=>Rl a) (λa=>zS a)
theorem d291:cS prog 291 λargs=>(D291 args).map λr=>(True,r):=eQ k291.1 (cx (B7 _)) (λa h=>i64B_ok h) (λ_=>rfl)
def aak:List SV->Option SV:=dF sIs (λa=>Nat.ble a.length 1000&&a.all Rl) (λa=>pS (ae a))
theorem d230:cS prog 230 λargs=>(aak args).map λr=>(True,r):=eQ k230.1 (cx (fJ _)) (λa h=>by
 simp only[J2]at h;unfold lR;exact⟨Qk h.1,λz b=>i64B_ok (Js.1 h.2 z b)⟩) (λ_=>rfl)
def D340:List SV->Option SV:=dF DK (λa=>(mr a.1&&mr a.2)&&decide (a.2≠0)) (λa=>.df [zS (a.1.tdiv a.2),zS (a.1.tmod a.2)])
theorem d340:cS prog 340 λargs=>(D340 args).map λr=>(True,r):=eQ k340.1 (cV (i9 _) (cx (i9 _))) (λa h=>by
 simp only[J2,JG]at h;exact⟨de h.1.1,de h.1.2,h.2⟩) (λ_=>rfl)
def Ys:List SV->Option SV:=dF DK (λa=>mr a.1&&mr a.2) (λa=>zS (Int.gcd a.1 a.2:Int))
theorem d362:cS prog 362 λargs=>(Ys args).map λr=>(True,r):=eQ XB.1 (cV (i9 _) (cx (i9 _))) (λa h=>by
 simp only[J2]at h;exact⟨de h.1,de h.2⟩) (λ_=>rfl)
end Go.Proofs.Big
namespace Go.Sx
open Go Go.RowKit
variable [bW]
def II:List (Nat×(List SV->Option SV))->Nat->Option (List SV->Option SV)
 |[],_=>none
 |(g,d)::r,f=>match Nat.beq g f with
  |true=>some d
  |false=>II r f
inductive ze (P : Program) : List (Nat × (List SV -> Option SV)) -> Prop
 | nil : ze P []
 | cons {f d l} : (cS P f fun args => (d args).map fun r => (True, r)) -> ze P l -> ze P ((f, d) :: l)
theorem look_ok{P:Program}{f:Nat}{d:List SV->Option SV}:∀{l:List (Nat×(List SV->Option SV))},ze P l->II l f=some d->cS P f λargs=>(d args).map λr=>(True,r)
 |[],_,h=>by cases h
 |(g,e)::l,.cons h1 h2,h=>by
  simp only[II]at h;split at h
  . rename_i b;cases h;rw[<-Nat.eq_of_beq_eq_true b];exact h1
  . exact look_ok h2 h
end Go.Sx
namespace Go.Proofs.Big
open Go Go.Sx Go.Proofs Go.RowKit Go.Proofs.Top Tryz
variable [bW]
def ZN:List (Nat×(List SV->Option SV)):=[(135,Fi.OY),(229,D229),(289,YX),(292,D292),(290,ZA),(254,D254),(310,ZP),(308,Yo),(351,YM),(287,ZC),(284,D284),(306,D306),(355,D355),(363,D363),(302,D302),(304,XX),(305,D305),(364,D364),(257,ZK),(256,D256),(315,D315),(350,ZV),(303,Yl),(394,D394),(291,D291),(230,aak),(340,D340),(362,Ys),(81,CD),(82,Iy),(38,R4),(175,Dp),(39,R6),(240,Ct)]
theorem tabW_ok:ze prog ZN:=.cons Fi.IH<|.cons d229<|.cons d289<|.cons d292<|.cons d290<|.cons d254<|.cons d310<|.cons d308<|.cons d351<|.cons d287<|.cons d284<|.cons d306<|.cons d355<|.cons d363<|.cons d302<|.cons d304<|.cons d305<|.cons d364<|.cons d257<|.cons d256<|.cons d315<|.cons d350<|.cons d303<|.cons d394<|.cons d291<|.cons d230<|.cons d340<|.cons d362<|.cons Nk<|.cons RJ<|.cons V4<|.cons NG<|.cons WN<|.cons Oe .nil
noncomputable def XW:DX:=⟨prog,IT,II ZN,[]⟩
theorem okW:An XW:=⟨okT.I,λf d h=>look_ok tabW_ok h,yf.nil⟩
end Go.Proofs.Big
namespace Go.Proofs.Pl
open Go Go.Sx Go.Proofs Go.RowKit Go.Proofs.Top Go.Proofs.Big
abbrev U(n:Int):SV:=.int .u32 n
abbrev I(n:Int):SV:=.int .i64 n
abbrev S(v:SV):ar:=.s v
def y0:SV:=.agg [S (I 100),S (I 1),S (I 0),S (I 0),S (I (-1)),S (I 0),S (I 0),S .aq,S (.bF 13 4 (aY 13 [[(.str [115,111,117,116,104]),(I 1),(I 0),(I
 (-3000)),(I (-3000)),(I 3000),(I (-3000)),(I 8),(I 0),(I 0),(I 0),(I (-1)),(I (-1))],[(.str [101,97,115,116]),(I 1),(I 0),(I 3000),(I (-3000)),(I 3000),
 (I 3000),(I 8),(I 0),(I 0),(I 0),(I (-1)),(I (-1))],[(.str [110,111,114,116,104]),(I 1),(I 0),(I 3000),(I 3000),(I (-3000)),(I 3000),(I 8),(I 0),(I 0),
 (I 0),(I (-1)),(I (-1))],[(.str [119,101,115,116]),(I 1),(I 0),(I (-3000)),(I 3000),(I (-3000)),(I (-3000)),(I 8),(I 0),(I 0),(I 0),(I (-1)),(I (-1))]])),
 S .aq,S .aq,S .aq,S .aq,S .aq,S .aq,S .aq,S .aq,S (.bF 7 1 (aY 7 [[(.str [107]),(I 0),(I 0),(I 0),(I 700),(I 0),(I 0)]]))]
def e0:Nat×List SV×SV:=(44,[y0],I 0)
def y1:SV:=.bF 7 1 (aY 7 [[(I 0),(I 0),(I 0),(I 0),(I 0),(I 0),(I 0)]])
def y2:SV:=.bF 1 4 (aY 1 [[.ff],[.ff],[.ff],[.ff]])
def y3:SV:=.agg [S (I 0),S (I 0)]
def e1:Nat×List SV×SV:=(60,[y0,(.agg [S (I 0),S y1,S .aq,S .emp,S y2,S (U 1)]),(I 0),y3,(I (-1))],.ff)
def y4:SV:=.agg [S (I 0),S (.bF 7 1 (aY 7 [[(I 1),(I 0),(I 0),(I 0),(I 0),(I 700),(I 0)]])),S .aq,S .emp,S y2,S (U 1)]
def e2:Nat×List SV×SV:=(60,[y0,y4,(I 0),y3,(I 0)],.ff)
def y5:SV:=.df [.aq,(I 0)]
def e3:Nat×List SV×SV:=(141,[y0,y4,(.bF 6 1 (aY 6 [[(I 0),(I 0),(I 700),(I 0),(I 0),(I (-1))]])),.emp],y5)
def e4:Nat×List SV×SV:=(31,[y0,y4,(U 1),.emp],.df [(.agg [S (.bF 14 1 (aY 14 [[(I 0),(I 0),(I 700),(I 0),(I 0),(I (-1)),(I 0),(I (-1)),(I 700),(I
 0),.aq,.aq,.ff,.ff]])),S .emp,S .aq,S (I 0),S .aq,S (I 0)]),(I 0)])
def y6:SV:=.agg [S (U 1),S (I 0),S (I 0)]
def y7:SV:=.agg [S (I 1),S (.bF 7 1 (aY 7 [[(I 1),(I 0),(I 0),(I 700),(I (-1)),(I 700),(I (-2))]])),S .emp,S .emp,S y2,S (U 1)]
def e5:Nat×List SV×SV:=(17,[y0,(.agg [S (I 0),S y1,S .aq,S .emp,S y2,S (U 0)]),y6],.df [y7,(.agg [S .aq,S (.int .u64 0),S .aq,S (I 490000)]),(I
 0)])
def e6:Nat×List SV×SV:=(60,[y0,y7,(I 0),(.agg [S (I 700),S (I (-1))]),(I 0)],.ff)
def e7:Nat×List SV×SV:=(141,[y0,y7,(.bF 6 1 (aY 6 [[(I 700),(I (-1)),(I 700),(I (-2)),(I 0),(I (-1))]])),.emp],y5)
def e8:Nat×List SV×SV:=(31,[y0,y7,(U 1),.emp],.df [(.agg [S (.bF 14 1 (aY 14 [[(I 700),(I (-1)),(I 700),(I (-2)),(I 0),(I (-1)),(I 0),(I (-1)),(I
 700),(I (-2)),.aq,.aq,.ff,.ff]])),S .emp,S .aq,S (I 0),S .aq,S (I 0)]),(I 0)])
def y8:SV:=.agg [S (I 2),S (.bF 7 1 (aY 7 [[(I 1),(I 0),(I 0),(I 1400),(I (-4)),(I 700),(I (-4))]])),S .emp,S .emp,S y2,S (U 1)]
def y9:SV:=.agg [S .aq,S (.int .u64 0),S .aq,S (I 0)]
def e9:Nat×List SV×SV:=(17,[y0,y7,y6],.df [y8,y9,(I 0)])
def Ws:Nat×List SV×SV:=(60,[y0,y8,(I 0),(.agg [S (I 1400),S (I (-4))]),(I 0)],.ff)
def e11:Nat×List SV×SV:=(141,[y0,y8,(.bF 6 1 (aY 6 [[(I 1400),(I (-4)),(I 700),(I (-4)),(I 0),(I (-1))]])),.emp],y5)
def WX:Nat×List SV×SV:=(31,[y0,y8,(U 1),.emp],.df [(.agg [S (.bF 14 1 (aY 14 [[(I 1400),(I (-4)),(I 700),(I (-4)),(I 0),(I (-1)),(I 0),(I (-1)),(I
 700),(I (-4)),.aq,.aq,.ff,.ff]])),S .emp,S .aq,S (I 0),S .aq,S (I 0)]),(I 0)])
def ZZ:SV:=.agg [S (I 3),S (.bF 7 1 (aY 7 [[(I 1),(I 0),(I 0),(I 2100),(I (-9)),(I 700),(I (-6))]])),S .emp,S .emp,S y2,S (U 1)]
def e13:Nat×List SV×SV:=(17,[y0,y8,y6],.df [ZZ,y9,(I 0)])
def U8:Nat×List SV×SV:=(60,[y0,ZZ,(I 0),(.agg [S (I 2100),S (I (-9))]),(I 0)],.ff)
def YQ:Nat×List SV×SV:=(141,[y0,ZZ,(.bF 6 1 (aY 6 [[(I 2100),(I (-9)),(I 700),(I (-6)),(I 0),(I (-1))]])),.emp],y5)
def e16:Nat×List SV×SV:=(31,[y0,ZZ,(U 1),.emp],.df [(.agg [S (.bF 14 1 (aY 14 [[(I 2100),(I (-9)),(I 700),(I (-6)),(I 0),(I (-1)),(I 0),(I (-1)),
 (I 700),(I (-6)),.aq,.aq,.ff,.ff]])),S .emp,S .aq,S (I 0),S .aq,S (I 0)]),(I 0)])
def y11:SV:=.agg [S (I 4),S (.bF 7 1 (aY 7 [[(I 1),(I 0),(I 0),(I 2800),(I (-16)),(I 700),(I (-8))]])),S .emp,S .emp,S y2,S (U 1)]
def e17:Nat×List SV×SV:=(17,[y0,ZZ,y6],.df [y11,y9,(I 0)])
def TH:Nat×List SV×SV:=(60,[y0,y11,(I 0),(.agg [S (I 2800),S (I (-16))]),(I 0)],.ff)
def y12:SV:=.bF 1 1 (aY 1 [[(U 1)]])
def y13:SV:=.bF 2 5 (aY 2 [[.tt,(.bF 1 1 (aY 1 [[(U 8934256)]]))],[.ff,(.bF 1 1 (aY 1 [[(U 327744)]]))],[.tt,(.bF 1 1 (aY 1 [[(U 484096)]]))],[.tt,(.bF
 1 1 (aY 1 [[(U 16)]]))],[.tt,y12]])
def e19:Nat×List SV×SV:=(350,[y13],.df [.tt,.ff])
def y14:SV:=.bF 2 5 (aY 2 [[.tt,(.bF 1 1 (aY 1 [[(U 9126256)]]))],[.ff,(.bF 1 1 (aY 1 [[(U 231744)]]))],[.tt,(.bF 1 1 (aY 1 [[(U 496096)]]))],[.tt,(.bF
 1 1 (aY 1 [[(U 16)]]))],[.tt,y12]])
def e20:Nat×List SV×SV:=(350,[y14],.df [.tt,.ff])
def Sw:SV:=.bF 2 3 (aY 2 [[.ff,(.bF 1 1 (aY 1 [[(U 3)]]))],[.tt,(.bF 1 1 (aY 1 [[(U 28)]]))],[.ff,(.bF 1 1 (aY 1 [[(U 49)]]))]])
def y16:SV:=.bF 2 2 (aY 2 [[.tt,(.bF 1 1 (aY 1 [[(U 2)]]))],[.ff,(.bF 1 1 (aY 1 [[(U 7)]]))]])
def y17:SV:=.bF 2 1 (aY 2 [[.tt,y12]])
def S6:Nat×List SV×SV:=(309,[Sw,y16],y17)
def e22:Nat×List SV×SV:=(309,[y16,y17],.aq)
def y18:SV:=.bF 2 3 (aY 2 [[.tt,(.bF 1 2 (aY 1 [[(U 1963208704)],[(U 251)]]))],[.ff,(.bF 1 2 (aY 1 [[(U 4006723584)],[(U 2346)]]))],[.tt,(.bF 1 2 (aY
 1 [[(U 569315328)],[(U 4107)]]))]])
def YR:Nat×List SV×SV:=(261,[y18],Sw)
def y19:SV:=.bF 2 1 (aY 2 [[.ff,y12]])
def e24:Nat×List SV×SV:=(309,[y16,y19],.aq)
def y20:SV:=.agg [S .ff,S .aq,S (I 0)]
def e25:Nat×List SV×SV:=(260,[(.bF 1 3 (aY 1 [[Sw],[y16],[y19]])),y20],I 2)
def ZF:Nat×List SV×SV:=(388,[y18,y20,(.agg [S .ff,S y12,S (I 0)]),(I 1073741824)],.df [(.bF 7 2 (aY 7 [[Sw,.ff,(.bF 1 0 (aY 1 [])),(I 0),.ff,y12,
 (I 2)],[Sw,.ff,y12,(I 2),.ff,y12,(I 1)]])),.tt])
def y21:SV:=.bF 1 1 (aY 1 [[(U 48000)]])
def y22:SV:=.bF 1 1 (aY 1 [[(U 6000)]])
def y23:SV:=.agg [S Sw,S .ff,S y12,S (I 3),S .ff,S y12,S (I 2)]
def XY:Nat×List SV×SV:=(227,[(.bF 1 3 (aY 1 [[(.bF 1 1 (aY 1 [[y13]]))],[(.bF 1 1 (aY 1 [[y14]]))],[(.bF 1 3 (aY 1 [[(.bF 2 3 (aY 2 [[.ff,(.bF
 1 1 (aY 1 [[(U 17904000)]]))],[.tt,y21],[.tt,y22]]))],[(.bF 2 3 (aY 2 [[.ff,(.bF 1 1 (aY 1 [[(U 18096000)]]))],[.ff,y21],[.ff,y22]]))],[y18]]))]]))],.df
 [y23,.tt])
def e28:Nat×List SV×SV:=(261,[Sw],Sw)
def e29:Nat×List SV×SV:=(209,[y23],.tt)
def Yu:Nat×List SV×SV:=(216,[(.bF 10 1 (aY 10 [[(I 0),(I (-1)),(I (-1)),(I 0),(I 0),(I 0),(I 0),(I 0),(I 8),(I 0)]])),(.bF 2 1 (aY 2 [[(I 700),(I
 (-8))]]))],.df [(.bF 2 1 (aY 2 [[(I (-350)),(I (-8))]])),.tt,(I 0)])
def Zj:Nat×List SV×SV:=(276,[(.agg [S (I 700),S (I (-8))]),y3,(.agg [S (I (-1)),S (I 0)])],I 700)
def y24:SV:=.bF 5 1 (aY 5 [[(I 1),(I 0),(I 1),(I 1),(I 700)]])
def y25:SV:=.agg [S (.bF 14 1 (aY 14 [[(I 2800),(I (-16)),(I (-350)),(I (-8)),(I 0),(I (-1)),(I 0),(I (-1)),(I (-350)),(I (-8)),.aq,.aq,.ff,.ff]])),
 S .emp,S y24,S (I 0),S .aq,S (I 1)]
def e32:Nat×List SV×SV:=(74,[y0,y11,(.agg [S (.bF 14 1 (aY 14 [[(I 2800),(I (-16)),(I 700),(I (-8)),(I 0),(I (-1)),(I 0),(I (-1)),(I 700),(I (-8)),
 .aq,.aq,.ff,.ff]])),S .emp,S .aq,S (I 0),S .aq,S (I 0)]),(U 1)],.df [y25,.tt,(I 0)])
def Yn:Nat×List SV×SV:=(141,[y0,y11,(.bF 6 1 (aY 6 [[(I 2800),(I (-16)),(I (-350)),(I (-8)),(I 0),(I (-1))]])),.emp],y5)
def ZW:Nat×List SV×SV:=(31,[y0,y11,(U 1),.emp],.df [y25,(I 0)])
def Zy:SV:=.agg [S (I 5),S (.bF 7 1 (aY 7 [[(I 1),(I 0),(I 0),(I 2450),(I (-25)),(I (-350)),(I (-10))]])),S .emp,S .emp,S y2,S (U 1)]
def ZS:Nat×List SV×SV:=(17,[y0,y11,y6],.df [Zy,(.agg [S y24,S (.int .u64 0),S .aq,S (I 0)]),(I 0)])
def Vw:Nat×List SV×SV:=(60,[y0,Zy,(I 0),(.agg [S (I 2450),S (I (-25))]),(I 0)],.ff)
def YD:Nat×List SV×SV:=(141,[y0,Zy,(.bF 6 1 (aY 6 [[(I 2450),(I (-25)),(I (-350)),(I (-10)),(I 0),(I (-1))]])),.emp],y5)
def YU:Nat×List SV×SV:=(31,[y0,Zy,(U 1),.emp],.df [(.agg [S (.bF 14 1 (aY 14 [[(I 2450),(I (-25)),(I (-350)),(I (-10)),(I 0),(I (-1)),(I 0),(I (-1)),
 (I (-350)),(I (-10)),.aq,.aq,.ff,.ff]])),S .emp,S .aq,S (I 0),S .aq,S (I 0)]),(I 0)])
def Zs:SV:=.agg [S (I 6),S (.bF 7 1 (aY 7 [[(I 1),(I 0),(I 0),(I 2100),(I (-36)),(I (-350)),(I (-12))]])),S .emp,S .emp,S y2,S (U 1)]
def Zt:Nat×List SV×SV:=(17,[y0,Zy,y6],.df [Zs,y9,(I 0)])
def UI:Nat×List SV×SV:=(60,[y0,Zs,(I 0),(.agg [S (I 2100),S (I (-36))]),(I 0)],.ff)
def Xx:Nat×List SV×SV:=(141,[y0,Zs,(.bF 6 1 (aY 6 [[(I 2100),(I (-36)),(I (-350)),(I (-12)),(I 0),(I (-1))]])),.emp],y5)
def e42:Nat×List SV×SV:=(31,[y0,Zs,(U 1),.emp],.df [(.agg [S (.bF 14 1 (aY 14 [[(I 2100),(I (-36)),(I (-350)),(I (-12)),(I 0),(I (-1)),(I 0),(I (-1)),
 (I (-350)),(I (-12)),.aq,.aq,.ff,.ff]])),S .emp,S .aq,S (I 0),S .aq,S (I 0)]),(I 0)])
def y28:SV:=.agg [S (I 7),S (.bF 7 1 (aY 7 [[(I 1),(I 0),(I 0),(I 1750),(I (-49)),(I (-350)),(I (-14))]])),S .emp,S .emp,S y2,S (U 1)]
def e43:Nat×List SV×SV:=(17,[y0,Zs,y6],.df [y28,y9,(I 0)])
def Wc:Nat×List SV×SV:=(60,[y0,y28,(I 0),(.agg [S (I 1750),S (I (-49))]),(I 0)],.ff)
def YA:Nat×List SV×SV:=(141,[y0,y28,(.bF 6 1 (aY 6 [[(I 1750),(I (-49)),(I (-350)),(I (-14)),(I 0),(I (-1))]])),.emp],y5)
def YL:Nat×List SV×SV:=(31,[y0,y28,(U 1),.emp],.df [(.agg [S (.bF 14 1 (aY 14 [[(I 1750),(I (-49)),(I (-350)),(I (-14)),(I 0),(I (-1)),(I 0),(I (-1)),
 (I (-350)),(I (-14)),.aq,.aq,.ff,.ff]])),S .emp,S .aq,S (I 0),S .aq,S (I 0)]),(I 0)])
def e47:Nat×List SV×SV:=(17,[y0,y28,y6],.df [(.agg [S (I 8),S (.bF 7 1 (aY 7 [[(I 1),(I 0),(I 0),(I 1400),(I (-64)),(I (-350)),(I (-16))]])),S .emp,
 S .emp,S y2,S (U 1)]),y9,(I 0)])
end Go.Proofs.Pl
