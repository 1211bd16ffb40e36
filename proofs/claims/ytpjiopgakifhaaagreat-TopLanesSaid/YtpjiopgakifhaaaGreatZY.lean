import Derived.Test.YtpjiopgakifhaaaGreatZW0
import Derived.Test.YtpjiopgakifhaaaGreatZW1
import Derived.Test.YtpjiopgakifhaaaGreatZW2
import Derived.Test.YtpjiopgakifhaaaGreatZW3
import Derived.Test.YtpjiopgakifhaaaGreatZX0
import Derived.Test.YtpjiopgakifhaaaGreatZX1
import Derived.Test.YtpjiopgakifhaaaGreatZX2
import Derived.Test.YtpjiopgakifhaaaGreatZX3
import Derived.Test.YtpjiopgakifhaaaGreatZG
import Derived.Test.YtpjiopgakifhaaaGreatZJ
namespace Go.Proofs.Pl
open Go Go.Sx Go.Proofs Go.RowKit Go.Proofs.Top Go.Proofs.Big
set_option linter.unusedSectionVars false
set_option linter.unusedVariables false
set_option maxRecDepth 100000
variable [bW]
theorem g0 :Fact Tryz.prog 44 e0.2.1 e0.2.2:=au okW Top.hm (by kernel_rfl) n0
theorem g1 :Fact Tryz.prog 60 e1.2.1 e1.2.2:=au okW Top.hm (by kernel_rfl) n1
theorem g2 :Fact Tryz.prog 60 e2.2.1 e2.2.2:=au okW Top.hm (by kernel_rfl) n2
theorem g3 :Fact Tryz.prog 141 e3.2.1 e3.2.2:=au (okW.more (.cons g2<| .cons g0<| .nil)) Top.hm (by kernel_rfl) n3
theorem g4 :Fact Tryz.prog 31 e4.2.1 e4.2.2:=au (okW.more (.cons g3<| .cons g2<| .cons g0<| .nil)) Top.hm (by kernel_rfl) n4
theorem g5 :Fact Tryz.prog 17 e5.2.1 e5.2.2:=au (okW.more (.cons g4<| .cons g1<| .cons g0<| .nil)) Top.hm (by kernel_rfl) n5
theorem g6 :Fact Tryz.prog 60 e6.2.1 e6.2.2:=au okW Top.hm (by kernel_rfl) n6
theorem g7 :Fact Tryz.prog 141 e7.2.1 e7.2.2:=au (okW.more (.cons g6<| .cons g0<| .nil)) Top.hm (by kernel_rfl) n7
theorem g8 :Fact Tryz.prog 31 e8.2.1 e8.2.2:=au (okW.more (.cons g7<| .cons g6<| .cons g0<| .nil)) Top.hm (by kernel_rfl) n8
theorem g9 :Fact Tryz.prog 17 e9.2.1 e9.2.2:=au (okW.more (.cons g8<| .cons g6<| .cons g0<| .nil)) Top.hm (by kernel_rfl) n9
theorem g10 :Fact Tryz.prog 60 Ws.2.1 Ws.2.2:=au okW Top.hm (by kernel_rfl) n10
theorem g11 :Fact Tryz.prog 141 Z7.2.1 Z7.2.2:=au (okW.more (.cons g10<| .cons g0<| .nil)) Top.hm (by kernel_rfl) n11
theorem g12 :Fact Tryz.prog 31 WX.2.1 WX.2.2:=au (okW.more (.cons g11<| .cons g10<| .cons g0<| .nil)) Top.hm (by kernel_rfl) n12
theorem g13 :Fact Tryz.prog 17 e13.2.1 e13.2.2:=au (okW.more (.cons g12<| .cons g10<| .cons g0<| .nil)) Top.hm (by kernel_rfl) n13
theorem g14 :Fact Tryz.prog 60 U8.2.1 U8.2.2:=au okW Top.hm (by kernel_rfl) n14
theorem g15 :Fact Tryz.prog 141 YQ.2.1 YQ.2.2:=au (okW.more (.cons g14<| .cons g0<| .nil)) Top.hm (by kernel_rfl) n15
theorem g16 :Fact Tryz.prog 31 Ze.2.1 Ze.2.2:=au (okW.more (.cons g15<| .cons g14<| .cons g0<| .nil)) Top.hm (by kernel_rfl) n16
theorem g17 :Fact Tryz.prog 17 e17.2.1 e17.2.2:=au (okW.more (.cons g16<| .cons g14<| .cons g0<| .nil)) Top.hm (by kernel_rfl) n17
theorem g18 :Fact Tryz.prog 60 TH.2.1 TH.2.2:=au okW Top.hm (by kernel_rfl) n18
theorem g19 :Fact Tryz.prog 350 Y3.2.1 Y3.2.2:=au okW Top.hm (by kernel_rfl) n19
theorem g20 :Fact Tryz.prog 350 Yi.2.1 Yi.2.2:=au okW Top.hm (by kernel_rfl) n20
theorem g21 :Fact Tryz.prog 309 S6.2.1 S6.2.2:=au okW Top.hm (by kernel_rfl) n21
theorem g22 :Fact Tryz.prog 309 Xo.2.1 Xo.2.2:=au okW Top.hm (by kernel_rfl) n22
theorem g23 :Fact Tryz.prog 261 YR.2.1 YR.2.2:=au (okW.more (.cons g22<| .cons g21<| .nil)) Top.hm (by kernel_rfl) n23
theorem g24 :Fact Tryz.prog 309 Xh.2.1 Xh.2.2:=au okW Top.hm (by kernel_rfl) n24
theorem g25 :Fact Tryz.prog 260 Z9.2.1 Z9.2.2:=au okW Top.hm (by kernel_rfl) n25
theorem g26 :Fact Tryz.prog 388 ZF.2.1 ZF.2.2:=au (okW.more (.cons g25<| .cons g24<| .cons g21<| .cons g23<| .nil)) Top.hm (by kernel_rfl) n26
theorem g27 :Fact Tryz.prog 227 XY.2.1 XY.2.2:=au (okW.more (.cons g26<| .cons g20<| .cons g19<| .nil)) Top.hm (by kernel_rfl) n27
theorem g28 :Fact Tryz.prog 261 Xj.2.1 Xj.2.2:=au (okW.more (.cons g22<| .cons g21<| .nil)) Top.hm (by kernel_rfl) n28
theorem g29 :Fact Tryz.prog 209 XR.2.1 XR.2.2:=au (okW.more (.cons g24<| .cons g21<| .cons g28<| .nil)) Top.hm (by kernel_rfl) n29
theorem g30 :Fact Tryz.prog 216 Yu.2.1 Yu.2.2:=au okW Top.hm (by kernel_rfl) n30
theorem g31 :Fact Tryz.prog 276 Zj.2.1 Zj.2.2:=au okW Top.hm (by kernel_rfl) n31
theorem g32 :Fact Tryz.prog 74 e32.2.1 e32.2.2:=au (okW.more (.cons g31<| .cons g30<| .cons g28<| .cons g29<| .cons g27<| .cons g18<| .cons g0<| .nil)) Top.hm (by kernel_rfl) n32
theorem g33 :Fact Tryz.prog 141 Yn.2.1 Yn.2.2:=au (okW.more (.cons g18<| .cons g0<| .nil)) Top.hm (by kernel_rfl) n33
theorem g34 :Fact Tryz.prog 31 ZW.2.1 ZW.2.2:=au (okW.more (.cons g33<| .cons g32<| .cons g18<| .cons g0<| .nil)) Top.hm (by kernel_rfl) n34
theorem g35 :Fact Tryz.prog 17 ZS.2.1 ZS.2.2:=au (okW.more (.cons g34<| .cons g18<| .cons g0<| .nil)) Top.hm (by kernel_rfl) n35
theorem g36 :Fact Tryz.prog 60 Vw.2.1 Vw.2.2:=au okW Top.hm (by kernel_rfl) n36
theorem g37 :Fact Tryz.prog 141 YD.2.1 YD.2.2:=au (okW.more (.cons g36<| .cons g0<| .nil)) Top.hm (by kernel_rfl) n37
theorem g38 :Fact Tryz.prog 31 YU.2.1 YU.2.2:=au (okW.more (.cons g37<| .cons g36<| .cons g0<| .nil)) Top.hm (by kernel_rfl) n38
theorem g39 :Fact Tryz.prog 17 Zt.2.1 Zt.2.2:=au (okW.more (.cons g38<| .cons g36<| .cons g0<| .nil)) Top.hm (by kernel_rfl) n39
theorem g40 :Fact Tryz.prog 60 UI.2.1 UI.2.2:=au okW Top.hm (by kernel_rfl) n40
theorem g41 :Fact Tryz.prog 141 Xx.2.1 Xx.2.2:=au (okW.more (.cons g40<| .cons g0<| .nil)) Top.hm (by kernel_rfl) n41
theorem g42 :Fact Tryz.prog 31 e42.2.1 e42.2.2:=au (okW.more (.cons g41<| .cons g40<| .cons g0<| .nil)) Top.hm (by kernel_rfl) n42
theorem g43 :Fact Tryz.prog 17 Z3.2.1 Z3.2.2:=au (okW.more (.cons g42<| .cons g40<| .cons g0<| .nil)) Top.hm (by kernel_rfl) n43
theorem g44 :Fact Tryz.prog 60 Wc.2.1 Wc.2.2:=au okW Top.hm (by kernel_rfl) n44
theorem g45 :Fact Tryz.prog 141 YA.2.1 YA.2.2:=au (okW.more (.cons g44<| .cons g0<| .nil)) Top.hm (by kernel_rfl) n45
theorem g46 :Fact Tryz.prog 31 YL.2.1 YL.2.2:=au (okW.more (.cons g45<| .cons g44<| .cons g0<| .nil)) Top.hm (by kernel_rfl) n46
theorem g47 :Fact Tryz.prog 17 Ya.2.1 Ya.2.2:=au (okW.more (.cons g46<| .cons g44<| .cons g0<| .nil)) Top.hm (by kernel_rfl) n47
theorem J4 :Fact Tryz.prog 7 [] .tt:=au (okW.more (.cons g47<| .cons g43<| .cons g39<| .cons g35<| .cons g17<| .cons g13<| .cons g9<| .cons g5<| .cons g0<| .nil)) Top.hm (by kernel_rfl) m7
end Go.Proofs.Pl
namespace Go.Proofs.Big
set_option linter.unusedVariables false
set_option linter.unusedSimpArgs false
open Go Go.Sx Go.Proofs Go.RowKit Go.Proofs.Top
set_option linter.unusedSectionVars false
set_option maxRecDepth 100000
theorem laF {v:Nat->Int} (h:FQ v) (e b:Bool) (hb:kX v↔b=true): @Fact (gS v) Tryz.prog 17 [mw,mv e,Ap] (Gn b):=by
 letI:=gS v
 have hX:An (XL b):=An.more okT (Hx h hb)
 have hI:(XL b).I 17=some Tryz.f17:=by unfold XL;kernel_rfl
 cases e<;>cases b
 . exact au hX hm hI laM1
 . exact au hX hm hI laM0
 . exact au hX hm hI laM3
 . exact au hX hm hI laM2
def Ph (v:Nat->Int) (e:Bool):List SV:=[mw,mv e,Ap].map (@iF (gS v) 14)
def OT (v:Nat->Int) (b:Bool):SV:= @iF (gS v) 14 (Gn b)
theorem laS [R0:bW] {v:Nat->Int} (h:FQ v) (h7:0<=v 7/\v 7<=100) (e b:Bool) (hb:kX v↔b=true):Oc Tryz.prog 17 (Ph v e) (OT v b):=by
 refine KO (gS v) R0 14 (laF h e b hb) ?_ rfl rfl ?_ ?_ ?_
 . cases e<;>kernel_rfl
 . obtain⟨h0,h1,h2,h3,h4,h5,h6⟩:=h
   have ev: ∀i, @bW.val (gS v) i=v i:=fun _=>rfl
   refine⟨@vh (gS v) 14 _ ?_, @vh (gS v) 14 _ ?_, @vh (gS v) 14 _ ?_,trivial⟩
   . simp [G0,wK,mO,wI,mw,lane,aY,XE.den,cx,cy,sz,ev]
     omega
   . cases e<;>simp [G0,wK,mO,wI,mv,kD,aY,XE.den,px,py,vx,vy,tk,ev]<;>omega
   . simp [G0,wK,mO,wI,Ap]
 . have p1:oS 14 (@iF (gS v) 14 mw):=by
    simp [oS,iF,wK,mO,wI,mw,lane,aY,eE,cx,cy,sz]
   have p2:oS 14 (@iF (gS v) 14 (mv e)):=by
    cases e<;>simp [oS,iF,wK,mO,wI,mv,kD,aY,eE,px,py,vx,vy,tk]
   have p3:oS 14 (@iF (gS v) 14 Ap):=by
    simp [oS,iF,wK,mO,wI,Ap,eE]
   exact⟨oc p1,oc p2,oc p3,trivial⟩
 . have p1:oS 14 (OT v b):=by
    unfold OT
    simp [oS,iF,wK,mO,wI,Gn,aY,eE,vx,vy]
   exact oc p1
def DE (px py vx vy cx cy n tk:Int):Nat->Int
 |0=>px|1=>py|2=>vx|3=>vy|4=>cx|5=>cy|6=>n|7=>tk|_=>0
instance (x y z : Int) : Decidable (nN x y z) := by unfold nN; infer_instance
instance (v : Nat -> Int) : Decidable (kX v) := by unfold kX; infer_instance
def Us :SV->Bool
 | .aq=>false
 |_=>true
def kS (e:Bool):SV:=match e with
 |true=> .emp
 |false=> .aq
def M7 (cx cy n:Int):SV:= .agg [.s (.int .i64 100), .s (.int .i64 1), .s (.int .i64 0), .s (.int .i64 0), .s (.int .i64 0), .s (.int .i64 0), .s (.int .i64 0), .s .aq, .s .aq, .s .aq, .s .aq, .s .aq, .s .aq, .s .aq, .s (.aI 6 1 fun _=>[.str [108], .int .i64 0, .int .i64 cx, .int .i64 cy, .int .i64 n, .int .i64 5]), .s .aq, .s .aq, .s .aq]
def D0 (x y vx vy:Int):SV:= .aI 7 1 fun _=>[.int .i64 1, .int .i64 0, .int .i64 0, .int .i64 x, .int .i64 y, .int .i64 vx, .int .i64 vy]
def C6 (tk px py vx vy:Int) (e:Bool):SV:= .agg [.s (.int .i64 tk), .s (D0 px py vx vy), .s (kS e), .s (kS e), .s .aq, .s (.int .u32 0)]
def PT (px py vx vy cx cy n tk:Int) (e:Bool):List SV:=[M7 cx cy n,C6 tk px py vx vy e, .agg [.s (.int .u32 0), .s (.int .i64 0), .s (.int .i64 0)]]
def UO (px py vx vy tk:Int) (b:Bool):SV:= .bp [C6 (tk+1) (px+vx) (py+vy) vx vy true, .agg [.s .aq, .s (.int .u64 (if b then 32 else 0)), .s .aq, .s (.int .i64 0)], .int .i64 0]
section
variable [bW]
theorem Re (px py vx vy cx cy n tk:Int) (e:Bool):uP pk pd (PT px py vx vy cx cy n tk e) (Ph (DE px py vx vy cx cy n tk) e):=by
 cases e<;>simp [uP,KY,mA,BG,JW,DM,xC,pg,bK,oP,jU,PT,Ph,M7,C6,D0,kS,mw,mv,kD,Ap,iF,eE,lane,aY,XE.den,DE,Big.tk,Big.px,Big.py,Big.vx,Big.vy,Big.cx,Big.cy,Big.sz,Big.Y,gS,S,I]
 all_goals exact⟨⟨rfl,rfl,rfl⟩,rfl,rfl,rfl,rfl,rfl⟩
theorem UA (px py vx vy cx cy n tk:Int) (b:Bool):Vh pk pd (OT (DE px py vx vy cx cy n tk) b) (UO px py vx vy tk b):=by
 simp [Vh,uP,KY,mA,BG,JW,DM,xC,pg,bK,oP,jU,UO,OT,C6,D0,kS,Gn,iF,eE,aY,XE.den,DE,Big.px,Big.py,Big.vx,Big.vy,Big.Y,gS,S,I]
 exact⟨rfl,rfl,rfl,rfl,rfl⟩
end
def c17 :bt:=fun args=>match args with
 |[.agg t, .agg s,c]=>match (t[14]?:Option ar),(s[0]?:Option ar),(s[1]?:Option ar),(s[2]?:Option ar)with
  |some (.s (.aI _ _ f)),some (.s (.int _ tk)),some (.s (.aI _ _ g)),some (.s k)=>match f 0,g 0 with
   |[_,_, .int _ cx, .int _ cy, .int _ n,_],[_,_,_, .int _ px, .int _ py, .int _ vx, .int _ vy]=>
    some (uP pk pd args (PT px py vx vy cx cy n tk (Us k))/\FQ (DE px py vx vy cx cy n tk)/\0<=tk/\tk<=100,UO px py vx vy tk (decide (kX (DE px py vx vy cx cy n tk))))
   |_,_=>none
  |_,_,_,_=>none
 |_=>none
theorem Wu [bW]:cS Tryz.prog 17 c17:=by
 refine⟨⟨Tryz.f17,Tryz.func17,by kernel_rfl,by kernel_rfl⟩,fun args p r hc hp R w vals hR hrel=> ?_⟩
 unfold c17 at hc
 split at hc
 case h_2=>cases hc
 split at hc
 case h_2=>cases hc
 split at hc
 case h_2=>cases hc
 simp only [Option.some.injEq,Prod.mk.injEq]at hc
 obtain⟨rfl,rfl⟩:=hc
 obtain⟨h1,h2,h3⟩:=hp
 have hl:=fun e=>laS h2 h3 e (decide (kX _)) (by rw [decide_eq_true_eq])
 refine(hl _ R w vals hR (kR (Re _ _ _ _ _ _ _ _ _) (kR (own':=Own.empty) h1 hrel))).mono ?_
 rintro e w' ⟨v,R',k1,k2,k3⟩
 exact⟨v,R',k1,C3 (Kp.none _ _) (UA _ _ _ _ _ _ _ _ _) k2,k3⟩
end Go.Proofs.Big
namespace Go.Proofs.Big
set_option linter.unusedVariables false
set_option linter.unusedSimpArgs false
open Go Go.Sx Go.Proofs Go.RowKit Go.Proofs.Top
set_option linter.unusedSectionVars false
variable [bW]
set_option maxRecDepth 100000
def dX (p v c i:Int):Int:=W (c-(p+i*v))
def bA (x y n:Int):Bool:=decide (W (W (x*x)+W (y*y))<W (n*n))
def bB (x y vx vy:Int):Bool:=decide (W (W (x*vx)+W (y*vy))>0)
def bC (x y vx vy:Int):Bool:=decide (W (W (x*vx)+W (y*vy))<W (W (vx*vx)+W (vy*vy)))
def bF (x y vx vy n:Int):Bool:=decide (W (W (W (x*vy)-W (y*vx))*W (W (x*vy)-W (y*vx)))<W (W (n*n)*W (W (vx*vx)+W (vy*vy))))
def bN (px py vx vy cx cy n i:Int):Bool:=decide (kX (DE (px+i*vx) (py+i*vy) vx vy cx cy n i))
def Qd (b:Bool):Int:=if b=true then 32 else 0
def qR :Code->Option Code
 | .loop c=>some (.loop c)
 | .seq a b=>match qR a with
  |some c=>some c
  |none=>qR b
 | .block _ c=>qR c
 |_=>none
def Ou :Code->Code
 | .seq a b=>match b with
  | .ret=> .seq a .ret
  |b=>Ou b
 |c=>c
noncomputable def D7 :Code:=(qR (mB Tryz.f5)).getD .skip
noncomputable def I2 :Code:=Ou (mB Tryz.f5)
def stP (px py vx vy:Int):Port where
 T:=Int×Bool
 rd s k:=Ao s (.tm 12) fun x=>match x with
  | .int _ i=>Ao s (.sg 0 2) fun y=>match y with
   | .aq=>k (i,false)
   | .emp=>k (i,true)
   |_=>False
  |_=>False
 ws _ x:=match x with
  |(i,e)=>[(.tm 12, .v (.int .i64 i)),(.sg 0 0, .s (.s (.int .i64 i))),(.sg 0 1, .s (.s (D0 (px+i*vx) (py+i*vy) vx vy))),(.sg 0 2, .s (.s (kS e))),(.sg 0 3, .s (.s (kS e)))]
 all k:= ∀i,k (i,false)/\k (i,true)
 ok s k h:=by
  obtain⟨x,h⟩:=rj h
  split at h
  . obtain⟨y,h⟩:=rj h
    split at h
    . exact⟨_,h⟩
    . exact⟨_,h⟩
    . exact h.elim
  . exact h.elim
 oT k h x:=by
  obtain⟨i,e⟩:=x
  cases e
  . exact(h i).1
  . exact(h i).2
def Cn (i:Int):Prop:=0<=i/\i<=12
attribute [irreducible] Cn
def ann5 (px py vx vy:Int):kM:=⟨.unit,stP px py vx vy,fun _ (x:Int×Bool)=>Cn x.1,fun _ (x:Int×Bool)=>(12-x.1).toNat⟩
def Q5 (x y:Int):SV:= .rA 2 1 (fun _=>[.int .i64 x, .int .i64 y]) 0 0
def Uu (cx cy n:Int):SV:= .rA 18 1 (fun _=>[.int .i64 100, .int .i64 1, .int .i64 0, .int .i64 0, .int .i64 0, .int .i64 0, .int .i64 0, .aq, .aq, .aq, .aq, .aq, .aq, .aq, .aI 6 1 (fun _=>[.str [108], .int .i64 0, .int .i64 cx, .int .i64 cy, .int .i64 n, .int .i64 5]), .aq, .aq, .aq]) 0 0
def tm5 (px py vx vy cx cy n:Int):List SV:=((((((List.replicate 192 SV.any).set 6 (Q5 px py)).set 7 (Q5 vx vy)).set 8 (Q5 cx cy)).set 9 (.int .i64 n)).set 10 (Uu cx cy n)).set 11 (.ptr 0 0)|>.set 12 (.int .i64 0)
def GG (px py vx vy:Int):List SV:=[.int .i64 0,D0 px py vx vy, .aq, .aq, .aq, .int .u32 0]
def st5 (px py vx vy cx cy n:Int):bg:=⟨tm5 px py vx vy cx cy n,[(⟨0,false,false,none,6,0,[none,none,none,none,none,none]⟩,(GG px py vx vy).map .s)]⟩
def uU (s:bg):Prop:=Ao s (.tm 4) fun x=>match x with
 | .tt=>True
 | .bool b=>b=true
 |_=>False
noncomputable def T5 :List (Nat×bt):=[(17,c17)]
noncomputable def X5 :Ctx:=⟨Tryz.prog,192,WQ T5⟩
noncomputable def Yr (i:Nat) (s:bg):Prop:=match Nat.beq i 0 with
 |true=>oV X5 I2 [] s (fun _=>False) (fun _ _=>False) uU
 |false=>False
noncomputable def Y8 (px:Int) (py:Int) (vx:Int) (vy:Int) (cx:Int) (cy:Int) (n:Int):Prop:=(st5 px py vx vy cx cy n).force fun s=>oV X5 D7 [(ann5 px py vx vy,0)] s (fun _=>False) Yr uU
def zj :Prop:=(1:Nat)=(1:Nat)
def Fb (z0:Int) (z1:Int):Prop:=zj/\(0:Nat)=(0:Nat)/\ ∀(i:Nat),i<(1:Nat)->z0=z0/\z1=z1/\True
def Eo :Prop:=(1:Int)=(1:Int)
def jZ :Prop:=(0:Int)=(0:Int)
def NI (z0:Int) (z1:Int) (z2:Int):Prop:=(100:Int)=(100:Int)/\Eo/\jZ/\jZ/\jZ/\jZ/\jZ/\ab (7:Nat) ((zj/\ ∀(i:Nat),i<
 (1:Nat)->[(108:UInt8)]=[(108:UInt8)]/\jZ/\z0=z0/\z1=z1/\z2=z2/\(5:Int)=(5:Int)/\True)/\ab (3:Nat) True)
def Lk :Option (Nat×Nat):=none
def RM :List (Option (Nat×Nat)):=[Lk,Lk,Lk,Lk,Lk,Lk]
def LS :Prop:=ab (3:Nat) (jZ/\True)
def Sb :Prop:=(0:Int)<=(0:Int)/\(0:Int)<(1:Int)
def RU (z0:Int) (z1:Int) (z2:Int) (z3:Int) (z4:Int) (z5:Int) (z6:Int) (z7:Int):Prop:=Cn (W (z0+(1:Int)))/\((12:Int)-W (z0+(1:
 Int))).toNat<((12:Int)-z0).toNat/\ab (6:Nat) (Fb z1 z2/\Fb z3 z4/\Fb z5 z6/\z7=z7/\(zj/\(0:Nat)=(0:Nat)/\ ∀(i:Nat),i<(1:Nat)
 ->NI z5 z6 z7)/\True/\W (z0+(1:Int))=W (z0+(1:Int))/\ab (179:Nat) True)/\RM=RM/\(z0+(1:Int)=W (z0+(1:Int))/\(zj/\ ∀(i_1:
 Nat),i_1<(1:Nat)->Eo/\jZ/\jZ/\z1+z0*z3+z3=z1+W (z0+(1:Int))*z3/\z2+z0*z4+z4=z2+W (z0+(1:Int))*z4/\z3=z3/\z4=
 z4/\True)/\LS)/\True
def FM (z0:Int) (z1:Int) (z2:Int) (z3:Int) (z4:Int) (z5:Int) (z6:Int) (z7:Int):Prop:=((Qd (bN z0 z1 z2 z3 z4 z5 z6 z7) !=(0:Int))=true
 ->True/\((Qd (bN z0 z1 z2 z3 z4 z5 z6 z7) !=(32:Int))=true->True/\False)/\((Qd (bN z0 z1 z2 z3 z4 z5 z6 z7) !=(32:Int))=false->ab (2:Nat) (RU
 z7 z0 z1 z2 z3 z4 z5 z6)))/\((Qd (bN z0 z1 z2 z3 z4 z5 z6 z7) !=(0:Int))=false->ab (3:Nat) (RU z7 z0 z1 z2 z3 z4 z5 z6))
def Ei (z0:Int) (z1:Int) (z2:Int) (z3:Int) (z4:Int) (z5:Int) (z6:Int) (z7:Int):Prop:=((!(Qd (bN z0 z1 z2 z3 z4 z5 z6 z7)==(32:Int))==
 true)=true->ab (2:Nat) False)/\((!(Qd (bN z0 z1 z2 z3 z4 z5 z6 z7)==(32:Int))==true)=false->FM z0 z1 z2 z3 z4 z5 z6 z7)
def Fw (z0:Int) (z1:Int) (z2:Int) (z3:Int) (z4:Int) (z5:Int) (z6:Int) (z7:Int):Bool:= !(Qd (bN z0 z1 z2 z3 z4 z5 z6 z7)==(32:Int))==
 bA (W (dX z0 z2 z4 z7-z2)) (W (dX z1 z3 z5 z7-z3)) z6
def MW (z0:Int) (z1:Int) (z2:Int) (z3:Int) (z4:Int) (z5:Int) (z6:Int) (z7:Int):Prop:=Cn z0->True/\(decide (z0<(12:Int))=true->ab
 (3:Nat) (((NI z1 z2 z3/\(z0=z0/\(zj/\ ∀(i_1:Nat),i_1<(1:Nat)->Eo/\jZ/\jZ/\z4+z0*z5=z4+z0*z5/\z6+z0*z7=z6+z0*z7/\
 z5=z5/\z7=z7/\True)/\LS)/\(jZ/\jZ/\jZ/\True)/\True)/\FQ (DE (z4+z0*z5) (z6+z0*z7) z5 z7 z1 z2 z3 z0)/\(0:Int)<=z0/\z0<=(100
 :Int))/\ab (2:Nat) ((false=true->True/\False)/\(false=false->Sb/\Sb/\ru true/\ru true/\True/\(bA (dX z4 z5 z1 z0) (dX z6 z7 z2 z0) z3=true
 ->True/\(bB (dX z4 z5 z1 z0) (dX z6 z7 z2 z0) z5 z7=true->True/\(bC (dX z4 z5 z1 z0) (dX z6 z7 z2 z0) z5 z7=true->ab (2:Nat) (Ei z4 z6 z5 z7 z1 z2
 z3 z0))/\(bC (dX z4 z5 z1 z0) (dX z6 z7 z2 z0) z5 z7=false->Ei z4 z6 z5 z7 z1 z2 z3 z0))/\(bB (dX z4 z5 z1 z0) (dX z6 z7 z2 z0) z5 z7=false->True/\Ei
 z4 z6 z5 z7 z1 z2 z3 z0))/\(bA (dX z4 z5 z1 z0) (dX z6 z7 z2 z0) z3=false->True/\(bB (dX z4 z5 z1 z0) (dX z6 z7 z2 z0) z5 z7=true->True/\(bC (dX z4 z5 z1
 z0) (dX z6 z7 z2 z0) z5 z7=true->True/\(bA (W (dX z4 z5 z1 z0-z5)) (W (dX z6 z7 z2 z0-z7)) z3=true->True/\Ei z4 z6 z5 z7 z1 z2 z3 z0)/\(bA (W (dX
 z4 z5 z1 z0-z5)) (W (dX z6 z7 z2 z0-z7)) z3=false->True/\((!(Qd (bN z4 z6 z5 z7 z1 z2 z3 z0)==(32:Int))==bF (dX z4 z5 z1 z0) (dX z6 z7 z2 z0) z5 z7
 z3)=true->ab (2:Nat) False)/\((!(Qd (bN z4 z6 z5 z7 z1 z2 z3 z0)==(32:Int))==bF (dX z4 z5 z1 z0) (dX z6 z7 z2 z0) z5 z7 z3)=false->FM z4 z6 z5
 z7 z1 z2 z3 z0)))/\(bC (dX z4 z5 z1 z0) (dX z6 z7 z2 z0) z5 z7=false->(Fw z4 z6 z5 z7 z1 z2 z3 z0=true->ab (2:Nat) False)/\(Fw z4 z6 z5 z7 z1 z2
 z3 z0=false->FM z4 z6 z5 z7 z1 z2 z3 z0)))/\(bB (dX z4 z5 z1 z0) (dX z6 z7 z2 z0) z5 z7=false->True/\(Fw z4 z6 z5 z7 z1 z2 z3 z0=true->ab (2:
 Nat) False)/\(Fw z4 z6 z5 z7 z1 z2 z3 z0=false->FM z4 z6 z5 z7 z1 z2 z3 z0)))))))/\(decide (z0<(12:Int))=false->True/\True)
theorem UU (px:Int) (py:Int) (vx:Int) (vy:Int) (cx:Int) (cy:Int) (n:Int):((Cn (0:Int)/\ab (6:Nat) (Fb px py/\Fb vx vy/\Fb cx cy/\n=n/\(zj/\(0:Nat)=(0:Nat)/\ ∀(i:Nat),i<(1:Nat)->NI cx cy n)/\True
 /\jZ/\ab (179:Nat) True)/\RM=RM/\(jZ/\(zj/\ ∀(i:Nat),i<(1:Nat)->Eo/\jZ/\jZ/\px=px+(0:Int)*vx/\py=py+(0:Int)*
 vy/\vx=vx/\vy=vy/\True)/\LS)/\True)/\ ∀(i:Int),MW i cx cy n px vx py vy/\MW i cx cy n px vx py vy)=Y8 px py vx vy cx cy n:=by kernel_rfl
attribute [local irreducible] kX
theorem KK (a b vx vy n:Int):nN (n*n-((-a)*(-a)+(-b)*(-b))) (-(2*((-a)*vx+(-b)*vy))) (-(vx*vx+vy*vy))↔(a*a+b*b<n*n\/(a-vx)*(a-vx)+(b-vy)*(b-vy)<n*n\/(a*vx+b*vy>0/\a*vx+b*vy<vx*vx+vy*vy/\(a*vy-b*vx)*(a*vy-b*vx)<n*n*(vx*vx+vy*vy))):=by
 have e1:(a*a+b*b)*(vx*vx+vy*vy)=(a*vx+b*vy)*(a*vx+b*vy)+(a*vy-b*vx)*(a*vy-b*vx):=by grind
 have e2:(a-vx)*(a-vx)+(b-vy)*(b-vy)=a*a+b*b-2*(a*vx+b*vy)+(vx*vx+vy*vy):=by grind
 have e3:(-a)*(-a)+(-b)*(-b)=a*a+b*b:=by grind
 have e4: -(2*((-a)*vx+(-b)*vy))=2*(a*vx+b*vy):=by grind
 rw [e2,e3,e4]
 generalize a*a+b*b=m at*
 generalize a*vx+b*vy=k at*
 generalize vx*vx+vy*vy=q at*
 generalize (a*vy-b*vx)*(a*vy-b*vx)=c at*
 generalize n*n=N
 have e5:2*k*(2*k)-4*(N-m)* -q=4*(N*q-c):=by grind
 unfold nN
 rw [e5]
 omega
theorem qK {a b A B:Int} (ha: -A<=a/\a<=A) (hb: -B<=b/\b<=B): -(A*B)<=a*b/\a*b<=A*B:=by
 have h1:a.natAbs<=A.natAbs:=by omega
 have h2:b.natAbs<=B.natAbs:=by omega
 have h3:=Nat.mul_le_mul h1 h2
 rw [<-Int.natAbs_mul,<-Int.natAbs_mul]at h3
 have h4:0<=A*B:=Int.mul_nonneg (by omega) (by omega)
 omega
theorem dv {a:Int} (h: -9000000000000000000<=a/\a<=9000000000000000000):W a=a:=aG (by omega) (by omega)
set_option maxHeartbeats 400000 in
theorem K9 {px py vx vy cx cy n i:Int} (h1: -2500<=px/\px<=2500) (h2: -2500<=py/\py<=2500) (h3: -700<=vx/\vx<=700) (h4: -700<=vy/\vy<=700) (h5: -2500<=cx/\cx<=2500) (h6: -2500<=cy/\cy<=2500) (h7: -900<=n/\n<=900) (h8: -12<=i/\i<=12):
 bN px py vx vy cx cy n i=(bA (dX px vx cx i) (dX py vy cy i) n||bA (W (dX px vx cx i-vx)) (W (dX py vy cy i-vy)) n||(bB (dX px vx cx i) (dX py vy cy i) vx vy&&bC (dX px vx cx i) (dX py vy cy i) vx vy&&bF (dX px vx cx i) (dX py vy cy i) vx vy n)):=by
 have m1:=qK h8 h3
 have m2:=qK h8 h4
 have ea:dX px vx cx i=cx-(px+i*vx):=dv (by omega)
 have eb:dX py vy cy i=cy-(py+i*vy):=dv (by omega)
 have ha: -20000<=dX px vx cx i/\dX px vx cx i<=20000:=by rw [ea];omega
 have hb: -20000<=dX py vy cy i/\dX py vy cy i<=20000:=by rw [eb];omega
 have eN:bN px py vx vy cx cy n i=decide (kX (DE (px+i*vx) (py+i*vy) vx vy cx cy n i)):=rfl
 rw [eN]
 have eL:kX (DE (px+i*vx) (py+i*vy) vx vy cx cy n i)=nN (n*n-((-(dX px vx cx i))*(-(dX px vx cx i))+(-(dX py vy cy i))*(-(dX py vy cy i)))) (-(2*((-(dX px vx cx i))*vx+(-(dX py vy cy i))*vy))) (-(vx*vx+vy*vy)):=by
  have e1: -(dX px vx cx i)=px+i*vx-cx:=by omega
  have e2: -(dX py vy cy i)=py+i*vy-cy:=by omega
  rw [e1,e2,kX];simp only [DE]
 clear eN
 generalize dX px vx cx i=a at*
 generalize dX py vy cy i=b at*
 have g1: -20700<=a-vx/\a-vx<=20700:=by omega
 have g2: -20700<=b-vy/\b-vy<=20700:=by omega
 have k1:=qK ha ha
 have k2:=qK hb hb
 have k3:=qK ha h3
 have k4:=qK hb h4
 have k5:=qK h3 h3
 have k6:=qK h4 h4
 have k7:=qK g1 g1
 have k8:=qK g2 g2
 have k9:=qK ha h4
 have k10:=qK hb h3
 have k11:=qK h7 h7
 have k12: -28000000<=a*vy-b*vx/\a*vy-b*vx<=28000000:=by omega
 have k13:=qK k12 k12
 have k14: -980000<=vx*vx+vy*vy/\vx*vx+vy*vy<=980000:=by omega
 have k15:=qK k11 k14
 have d1:bA a b n=decide (a*a+b*b<n*n):=by
  unfold bA;rw [dv (a:=a*a) (by omega),dv (a:=b*b) (by omega),dv (by omega),dv (by omega)]
 have d2:bA (W (a-vx)) (W (b-vy)) n=decide ((a-vx)*(a-vx)+(b-vy)*(b-vy)<n*n):=by
  rw [dv (a:=a-vx) (by omega),dv (a:=b-vy) (by omega)]
  unfold bA;rw [dv (a:=(a-vx)*(a-vx)) (by omega),dv (a:=(b-vy)*(b-vy)) (by omega),dv (by omega),dv (by omega)]
 have d3:bB a b vx vy=decide (a*vx+b*vy>0):=by
  unfold bB;rw [dv (a:=a*vx) (by omega),dv (a:=b*vy) (by omega),dv (by omega)]
 have d4:bC a b vx vy=decide (a*vx+b*vy<vx*vx+vy*vy):=by
  unfold bC;rw [dv (a:=a*vx) (by omega),dv (a:=b*vy) (by omega),dv (a:=vx*vx) (by omega),dv (a:=vy*vy) (by omega),dv (by omega),dv (by omega)]
 have d5:bF a b vx vy n=decide ((a*vy-b*vx)*(a*vy-b*vx)<n*n*(vx*vx+vy*vy)):=by
  unfold bF;rw [dv (a:=a*vy) (by omega),dv (a:=b*vx) (by omega),dv (a:=vx*vx) (by omega),dv (a:=vy*vy) (by omega),dv (a:=n*n) (by omega),dv (a:=a*vy-b*vx) (by omega),dv (a:=vx*vx+vy*vy) (by omega),dv (by omega),dv (by omega)]
 rw [d1,d2,d3,d4,d5]
 clear d1 d2 d3 d4 d5 k1 k2 k3 k4 k5 k6 k7 k8 k9 k10 k11 k12 k13 k14 k15
 rw [show decide (kX (DE (px+i*vx) (py+i*vy) vx vy cx cy n i))=decide _ from decide_eq_decide.2 ((iff_of_eq eL).trans (KK a b vx vy n))]
 simp only [Bool.decide_or,Bool.decide_and,Bool.or_assoc,Bool.and_assoc]
theorem Vj {px py vx vy cx cy n:Int} (h1: -2500<=px/\px<=2500) (h2: -2500<=py/\py<=2500) (h3: -700<=vx/\vx<=700) (h4: -700<=vy/\vy<=700) (h5: -2500<=cx/\cx<=2500) (h6: -2500<=cy/\cy<=2500) (h7:1<=n/\n<=900):Y8 px py vx vy cx cy n:=by
 rw [<-UU]
 have t1: ∀x y,Fb x y:=fun x y=>by simp [Fb,zj]
 have t4: ∀x y z,NI x y z:=fun x y z=>by simp [NI,Eo,jZ,zj,aA]
 have t7:LS:=by simp [LS,jZ,aA]
 have t8:Sb:=by simp [Sb]
 refine⟨⟨by unfold Cn;omega,by simp [aA,t1,t4,zj,jZ],rfl,⟨rfl,⟨rfl,fun i hi=>by simp [Eo,jZ]⟩,t7⟩,trivial⟩,?_⟩
 have key: ∀i,MW i cx cy n px vx py vy:=by
  intro i hI
  unfold Cn at hI
  refine⟨trivial,fun hlt=> ?_,fun _=>⟨trivial,trivial⟩⟩
  have hlt:=of_decide_eq_true hlt
  have m1:=qK (show-12<=i/\i<=12 by omega) h3
  have m2:=qK (show-12<=i/\i<=12 by omega) h4
  have hN:=K9 h1 h2 h3 h4 h5 h6 (show-900<=n/\n<=900 by omega) (show-12<=i/\i<=12 by omega)
  have e1:W (i+1)=i+1:=dv (by omega)
  have s1:px+i*vx+vx=px+(i+1)*vx:=by grind
  have s2:py+i*vy+vy=py+(i+1)*vy:=by grind
  have t9:RU i px py vx vy cx cy n:=by
   have hiv:Cn (i+1):=by unfold Cn;omega
   have hm:((12:Int)-(i+1)).toNat<((12:Int)-i).toNat:=by omega
   simp [RU,e1,hiv,hm,t1,t4,t7,aA,zj,Eo,jZ,s1,s2]
  have hB:FQ (DE (px+i*vx) (py+i*vy) vx vy cx cy n i):=⟨by simp only [DE];omega,by simp only [DE];omega,by simp only [DE];omega,by simp only [DE];omega,by simp only [DE];omega,by simp only [DE];omega,h7⟩
  rw [aA]
  refine⟨⟨⟨t4 _ _ _,⟨rfl,⟨rfl,fun i hi=>by simp [Eo,jZ]⟩,t7⟩,⟨rfl,rfl,rfl,trivial⟩,trivial⟩,hB,by omega,by omega⟩,?_⟩
  simp only [aA]
  refine⟨(fun h=>by cases h),fun _=>⟨t8,t8,⟨rfl⟩,⟨rfl⟩,trivial,?_⟩⟩
  clear hB m1 m2 e1 s1 s2
  simp only [FM,Ei,Fw,hN,aA,t9,true_and,and_true,imp_true_iff,implies_true]
  clear hN
  generalize bA (dX px vx cx i) (dX py vy cy i) n=A
  generalize bA (W (dX px vx cx i-vx)) (W (dX py vy cy i-vy)) n=D
  generalize bB (dX px vx cx i) (dX py vy cy i) vx vy=B
  generalize bC (dX px vx cx i) (dX py vy cy i) vx vy=C
  generalize bF (dX px vx cx i) (dX py vy cy i) vx vy n=F
  cases A<;>cases B<;>cases C<;>cases D<;>cases F<;>simp [Qd]
 exact fun i=>⟨key i,key i⟩
end Go.Proofs.Big
namespace Go.Proofs.Big
set_option linter.unusedVariables false
set_option linter.unusedSimpArgs false
open Go Go.Sx Go.Proofs Go.RowKit Go.Proofs.Top
set_option linter.unusedSectionVars false
set_option maxRecDepth 100000
attribute [local go_sem] Oper.semAt_some
theorem Sk {P:Program} {c c':Code} {Q:Exit->Act->World->Prop} {a:Act} {w:World} (h:c'=c) (k:c'.wp P Q a w):c.wp P Q a w:=h▸k
section
variable [bW]
theorem Ql {px py vx vy cx cy n:Int} (hv:Y8 px py vx vy cx cy n) {E:Env} (hE:E.N=192) (hK: ∀o r,E.K o r) {Q':Exit->Act->World->Prop} {K:Act->World->Prop} (hk: ∀a w,Code.wp Tryz.prog I2 Q' a w->K a w)
 (hret: ∀(s:bg) a w,uU s->dL E s.get w a->Q' .ret a w) {a:Act} {w:World} (hs:dL E (st5 px py vx vy cx cy n).get w a):Code.wp Tryz.prog D7 (Exit.inBlock 0 (Exit.then K Q')) a w:=by
 unfold Y8 at hv
 rw [bg.force_eq]at hv
 have hT: ∀f c,X5.C f=some c->nh X5.P f c:=HP (P:=Tryz.prog) (l:=T5) ⟨Wu.x,trivial⟩
 refine pU hK (X:=X5) hE hT hm D7 _ _ _ _ _ hv (Exit.inBlock 0 (Exit.then K Q')) (fun _ h=>h.elim) (fun i s h a w hs=> ?_) (fun s h a w hs=>hret s a w h hs) a w hs
 unfold Yr at h
 split at h
 case h_2=>exact h.elim
 rename_i hi
 have hi:=Nat.eq_of_beq_eq_true hi
 subst hi
 exact hk a w (pU hK (X:=X5) hE hT hm I2 _ _ _ _ _ h Q' (fun _ h=>h.elim) (fun _ _ h=>h.elim) (fun s h a w hs=>hret s a w h hs) a w hs)
theorem M3 {P:Program} {fn:Func} {E:Env} {s:bg} {w:World} {a:Act} (hf:fn.results= #[.tmp 4]) (h:uU s) (hs:dL E s.get w a):bodyPost P fn (fun e w'=>e= .returned (.bool true)/\Below E.B E.w0 w') .ret a w:=by
 obtain⟨ro,own,hg⟩:=hs
 refine bodyPost_ret (results_tmp hf _ _ _) hg.defs ⟨?_,hg.below⟩
 unfold uU Ao at h
 split at h
 . rename_i x hx
   have hr:=hg.tm 4 x hx
   split at h
   . rw [nX hr]
   . subst h;rw [jJ hr]
   . exact h.elim
 . rename_i x hx;cases hx
 . exact h.elim
theorem ti {R:Nat->SV->Prop} {l:List SV} {i:Nat} {x:SV} (h: ∀t sv,l[t]?=some sv->R t sv) (k:R i x): ∀t sv,(l.set i x)[t]?=some sv->R t sv:=by
 intro t sv ht
 rw [List.getElem?_set]at ht
 split at ht
 . rename_i e;subst e
   split at ht
   . cases ht;exact k
   . cases ht
 . exact h t sv ht
theorem W8 {R:Nat->SV->Prop} {n:Nat} (k: ∀t,R t .any): ∀t sv,(List.replicate n SV.any)[t]?=some sv->R t sv:=by
 intro t sv ht
 rw [List.getElem?_replicate]at ht
 split at ht
 . cases ht;exact k t
 . cases ht
end
def KS (s:Nat) (W:World):RO:=fun b o=>if s<=b/\b<s+6 then W.cell? ⟨b,o,none⟩else none
theorem Rh {s:Nat} {W:World} {b o:Nat} {v:Value} (h:KS s W b o=some v):W.cell? ⟨b,o,none⟩=some v/\s<=b/\b<s+6:=by
 unfold KS at h
 split at h
 . exact⟨h,by omega,by omega⟩
 . cases h
theorem xa {s j:Nat} {W:World} (hj:j<6) (o:Nat):KS s W (s+j) o=W.cell? ⟨s+j,o,none⟩:=by
 unfold KS;rw [if_pos (by omega)]
theorem cell_of {W:World} {b:Nat} {vs:Array Value} {ty:TypeId} {fr:Nat×Nat} (h:W.heap[b]?=some (.cells vs ty fr)) (k:Nat):W.cell? ⟨b,k,none⟩=vs[k]?:=by
 simp [World.cell?,h]
abbrev Lp (w:World) (o0 o1 o2 o3 o4 o5 o6:Obj):World:=((((((w.alloc o0).alloc o1).alloc o2).alloc o3).alloc o4).alloc o5).alloc o6
theorem Wp (w:World) (o0 o1 o2 o3 o4 o5 o6:Obj):(Lp w o0 o1 o2 o3 o4 o5 o6).heap[w.heap.size]?=some o0/\(Lp w o0 o1 o2 o3 o4 o5 o6).heap[w.heap.size+1]?=some o1/\(Lp w o0 o1 o2 o3 o4 o5 o6).heap[w.heap.size+2]?=some o2/\(Lp w o0 o1 o2 o3 o4 o5 o6).heap[w.heap.size+3]?=some o3/\
 (Lp w o0 o1 o2 o3 o4 o5 o6).heap[w.heap.size+4]?=some o4/\(Lp w o0 o1 o2 o3 o4 o5 o6).heap[w.heap.size+5]?=some o5/\(Lp w o0 o1 o2 o3 o4 o5 o6).heap[w.heap.size+6]?=some o6:=by
 have hs: ∀(w:World) o,(w.alloc o).heap.size=w.heap.size+1:=fun w o=>by simp
 have hn: ∀(w:World) o k,k=w.heap.size->(w.alloc o).heap[k]?=some o:=fun w o k hk=>by subst hk;exact World.alloc_heap_new w o
 refine⟨?_,?_,?_,?_,?_,?_,?_⟩<;>(repeat (first|exact hn _ _ _ (by simp only [hs])|rw [Below.heap_alloc _ _ _ (by simp only [hs];omega)]))
theorem Below.Lp {B:Nat} {u w:World} (h:Below B u w) (hB:B<=w.heap.size) (o0 o1 o2 o3 o4 o5 o6:Obj):Below B u (Lp w o0 o1 o2 o3 o4 o5 o6):=by
 have hs: ∀(w:World) o,(w.alloc o).heap.size=w.heap.size+1:=fun w o=>by simp
 exact((((((h.alloc hB _).alloc (by simp only [hs];omega) _).alloc (by simp only [hs];omega) _).alloc (by simp only [hs];omega) _).alloc (by simp only [hs];omega) _).alloc (by simp only [hs];omega) _).alloc (by simp only [hs];omega) _
abbrev vJ (n:Int):Value:= .int .i64 n
def dj :Value:= .slice none 0 0
section
variable [bW]
theorem Qf {px py vx vy cx cy n:Int} (hv:Y8 px py vx vy cx cy n) {w w5:World} (hB:Below w.heap.size w w5) {fn:Func} (hf:fn.results= #[.tmp 4]) {K:Act->World->Prop}
 (hk: ∀a w',Code.wp Tryz.prog I2 (bodyPost Tryz.prog fn fun e w'=>e= .returned (.bool true)/\Below w.heap.size w w') a w'->K a w') {tmps:Array Value} (hN:tmps.size=192)
 (h6:tmps.getD 6 undef= .pointer (some ⟨w5.heap.size,0,none⟩)) (h7:tmps.getD 7 undef= .pointer (some ⟨w5.heap.size+1,0,none⟩)) (h8:tmps.getD 8 undef= .pointer (some ⟨w5.heap.size+2,0,none⟩)) (h9:tmps.getD 9 undef=vJ n)
 (h10:tmps.getD 10 undef= .pointer (some ⟨w5.heap.size+4,0,none⟩)) (h11:tmps.getD 11 undef= .pointer (some ⟨w5.heap.size+6,0,none⟩)) (h12:tmps.getD 12 undef=vJ 0):
 Code.wp Tryz.prog D7 (Exit.inBlock 0 (Exit.then K (bodyPost Tryz.prog fn fun e w'=>e= .returned (.bool true)/\Below w.heap.size w w'))) ⟨tmps,[]⟩
  (Lp w5 (.cells #[vJ px,vJ py] 25) (.cells #[vJ vx,vJ vy] 25) (.cells #[vJ cx,vJ cy] 25) (.cells #[.string ⟨#[108]⟩,vJ 0,vJ cx,vJ cy,vJ n,vJ 5] 66)
   (.cells #[vJ 100,vJ 1,vJ 0,vJ 0,vJ 0,vJ 0,vJ 0,dj,dj,dj,dj,dj,dj,dj, .slice (some ⟨w5.heap.size+3,0,none⟩) 1 1,dj,dj,dj] 37)
   (.cells #[vJ 1,vJ 0,vJ 0,vJ px,vJ py,vJ vx,vJ vy] 49) (.cells #[vJ 0, .slice (some ⟨w5.heap.size+5,0,none⟩) 1 1,dj,dj,dj, .int .u32 0] 43)):=by
 obtain⟨q0,q1,q2,q3,q4,q5,q6⟩:=Wp w5 (.cells #[vJ px,vJ py] 25) (.cells #[vJ vx,vJ vy] 25) (.cells #[vJ cx,vJ cy] 25) (.cells #[.string ⟨#[108]⟩,vJ 0,vJ cx,vJ cy,vJ n,vJ 5] 66)
  (.cells #[vJ 100,vJ 1,vJ 0,vJ 0,vJ 0,vJ 0,vJ 0,dj,dj,dj,dj,dj,dj,dj, .slice (some ⟨w5.heap.size+3,0,none⟩) 1 1,dj,dj,dj] 37)
  (.cells #[vJ 1,vJ 0,vJ 0,vJ px,vJ py,vJ vx,vJ vy] 49) (.cells #[vJ 0, .slice (some ⟨w5.heap.size+5,0,none⟩) 1 1,dj,dj,dj, .int .u32 0] 43)
 have hBW:=Below.Lp hB hB.size (.cells #[vJ px,vJ py] 25) (.cells #[vJ vx,vJ vy] 25) (.cells #[vJ cx,vJ cy] 25) (.cells #[.string ⟨#[108]⟩,vJ 0,vJ cx,vJ cy,vJ n,vJ 5] 66)
  (.cells #[vJ 100,vJ 1,vJ 0,vJ 0,vJ 0,vJ 0,vJ 0,dj,dj,dj,dj,dj,dj,dj, .slice (some ⟨w5.heap.size+3,0,none⟩) 1 1,dj,dj,dj] 37)
  (.cells #[vJ 1,vJ 0,vJ 0,vJ px,vJ py,vJ vx,vJ vy] 49) (.cells #[vJ 0, .slice (some ⟨w5.heap.size+5,0,none⟩) 1 1,dj,dj,dj, .int .u32 0] 43)
 revert q0 q1 q2 q3 q4 q5 q6 hBW
 generalize Lp w5 _ _ _ _ _ _ _=W
 intro q0 q1 q2 q3 q4 q5 q6 hBW
 have hs:=hB.size
 have two: ∀(j:Nat) (x y:Int),j<6->W.heap[w5.heap.size+j]?=some (.cells #[vJ x,vJ y] 25)->Rel (KS w5.heap.size W) (Lv (w5.heap.size+6)) (Q5 x y) (.pointer (some ⟨w5.heap.size+j,0,none⟩)):=fun j x y hj h=>
  Ii (svs:=[.int .i64 x, .int .i64 y]) (vals:=[vJ x,vJ y]) (fun k _=>by rw [xa hj,cell_of h];simp) ⟨.int _ _ _, .int _ _ _,trivial⟩
 refine Ql (E:=⟨w.heap.size,w,fun _ _=>none,192,fun _ _=>True,fun _ _ _ _ _ _ _=>trivial⟩) hv rfl (fun _ _=>trivial) hk (fun s a w h hs=>M3 (E:=⟨_,_,fun _ _=>none,192,fun _ _=>True,fun _ _ _ _ _ _ _=>trivial⟩) hf h hs) ?_
 refine RX (cells:=GG px py vx vy) (bT:=w5.heap.size+6) (ro:=KS w5.heap.size W) hBW (by omega) (fun b o v h=> ?_) q6 hN ?_ rfl ?_
 . obtain⟨h1,h2,h3⟩:=Rh h
   exact⟨h1,by omega,by omega⟩
 . unfold tm5
   refine ti (ti (ti (ti (ti (ti (ti (W8 fun _=> .any _ _) ?_) ?_) ?_) ?_) ?_) ?_) ?_
   . rw [h6];exact two 0 px py (by omega) q0
   . rw [h7];exact two 1 vx vy (by omega) q1
   . rw [h8];exact two 2 cx cy (by omega) q2
   . rw [h9];exact .int _ _ _
   . rw [h10]
     refine Ii (svs:=[.int .i64 100, .int .i64 1, .int .i64 0, .int .i64 0, .int .i64 0, .int .i64 0, .int .i64 0, .aq, .aq, .aq, .aq, .aq, .aq, .aq, .aI 6 1 (fun _=>[.str [108], .int .i64 0, .int .i64 cx, .int .i64 cy, .int .i64 n, .int .i64 5]), .aq, .aq, .aq])
      (vals:=[vJ 100,vJ 1,vJ 0,vJ 0,vJ 0,vJ 0,vJ 0,dj,dj,dj,dj,dj,dj,dj, .slice (some ⟨w5.heap.size+3,0,none⟩) 1 1,dj,dj,dj]) (fun k _=>by rw [xa (by omega),cell_of q4];simp) ?_
     refine⟨.int _ _ _, .int _ _ _, .int _ _ _, .int _ _ _, .int _ _ _, .int _ _ _, .int _ _ _, .aq _, .aq _, .aq _, .aq _, .aq _, .aq _, .aq _,?_, .aq _, .aq _, .aq _,trivial⟩
     exact I0 (svs:=[.str [108], .int .i64 0, .int .i64 cx, .int .i64 cy, .int .i64 n, .int .i64 5]) (vals:=[.string ⟨#[108]⟩,vJ 0,vJ cx,vJ cy,vJ n,vJ 5]) (by omega) (fun k _=>by rw [xa (by omega),cell_of q3];simp) ⟨.str _ _, .int _ _ _, .int _ _ _, .int _ _ _, .int _ _ _, .int _ _ _,trivial⟩
   . rw [h11];exact .ptr _ 0 0 _ rfl
   . rw [h12];exact .int _ _ _
 . intro k sv hk
   match k,hk with
   |0,hk=>cases hk;exact .int _ _ _
   |1,hk=>
    cases hk
    exact I0 (svs:=[.int .i64 1, .int .i64 0, .int .i64 0, .int .i64 px, .int .i64 py, .int .i64 vx, .int .i64 vy]) (vals:=[vJ 1,vJ 0,vJ 0,vJ px,vJ py,vJ vx,vJ vy]) (by omega) (fun k _=>by rw [xa (by omega),cell_of q5];simp) ⟨.int _ _ _, .int _ _ _, .int _ _ _, .int _ _ _, .int _ _ _, .int _ _ _, .int _ _ _,trivial⟩
   |2,hk=>cases hk;exact .aq _
   |3,hk=>cases hk;exact .aq _
   |4,hk=>cases hk;exact .aq _
   |5,hk=>cases hk;exact .int _ _ _
   |k+6,hk=>simp [GG]at hk
set_option maxRecDepth 100000 in
set_option maxHeartbeats 4000000 in
theorem Gy {a:Option Addr} {len cap:Nat} (size:Int) {w:World} (hlen:len<=9223372036854775807)
 (hrow: ∀j,j<len-> ∃B o x,a=some ⟨B,o,none⟩/\w.cell? ⟨B,o+j,none⟩=some (.int .i64 x)) (hplay: ∀w,Calls Tryz.prog 7 #[] w fun e w'=>e= .returned (.bool true)/\Below w.heap.size w w'):
 Calls Tryz.prog 5 #[.slice a len cap, .int .i64 size] w fun e w'=>e= .returned (.bool true)/\Below w.heap.size w w':=by
 have hr0: ∀W,Below w.heap.size w W-> ∀j,j<len-> ∃B o x,a=some ⟨B,o,none⟩/\W.cell? ⟨B,o+j,none⟩=some (.int .i64 x):=fun W hW j hj=>by
  obtain⟨B,o,x,h1,h2⟩:=hrow j hj
  exact⟨B,o,x,h1,(hW.cell (Dh h2)).trans h2⟩
 clear hrow
 go_enter Tryz.func5,Tryz.ntmps5
 go_wp2_with first
  |(go_at_call 7;refine(hplay _).mono ?_;rintro e w0 ⟨rfl,hB0⟩;have hr1:=hr0 _ hB0;clear hr0)
  |(go_at_call 14;refine(MI hr1).mono ?_;rintro e w1 ⟨rfl,hS1,hB1⟩;clear hr1)
  |(go_at_call 15;refine(AS hlen hS1).mono ?_;rintro e w2 ⟨px,py,k2,rfl,hp0,hp1,hp2,hp3,hS2,hE2⟩;clear hS1)
  |(go_at_call 16;refine(ml (-700) 700 (by omega) (by omega) (by omega) hlen hS2).mono ?_;rintro e w3 ⟨vx,k3,rfl,hv0,hv1,hS3,hE3⟩;clear hS2)
  |(go_at_call 16;refine(ml (-700) 700 (by omega) (by omega) (by omega) hlen hS3).mono ?_;rintro e w4 ⟨vy,k4,rfl,hv2,hv3,hS4,hE4⟩;clear hS3)
  |(go_at_call 15;refine(AS hlen hS4).mono ?_;rintro e w5 ⟨cx,cy,k5,rfl,hc0,hc1,hc2,hc3,hS5,hE5⟩;have hS6:=hS5;clear hS4 hS5)
  |(go_at_call 13;refine(Kc size 900 (by omega) (by omega)).mono ?_;rintro e w6 ⟨n,rfl,hn0,hn1,rfl⟩)
 rename_i K hK
 have hB01:Below w.heap.size w w1:=hB0.trans (hB1.mono hB0.size)
 have hE:Ex w0.heap.size w1 w5:=((hE2.trans hE3).trans hE4).trans hE5
 have hB5:Below w.heap.size w w5:=hB01.trans (hE.below hB0.size (Nat.le_trans hB0.size hB1.size))
 refine Sk (c':=D7) (by kernel_rfl) ?_
 exact Qf (Vj ⟨hp0,hp1⟩ ⟨hp2,hp3⟩ ⟨hv0,hv1⟩ ⟨hv2,hv3⟩ ⟨hc0,hc1⟩ ⟨hc2,hc3⟩ (by omega)) hB5 rfl (fun a w' h=>hK a w' (Sk (by kernel_rfl) h)) rfl rfl rfl rfl rfl rfl rfl rfl
end
end Go.Proofs.Big
