import Derived.Test.YtpjiopgakifhaaaGreatTW0
import Derived.Test.YtpjiopgakifhaaaGreatTW1
import Derived.Test.YtpjiopgakifhaaaGreatTW2
import Derived.Test.YtpjiopgakifhaaaGreatTW3
import Derived.Test.YtpjiopgakifhaaaGreatTJ
import Derived.Test.YtpjiopgakifhaaaGreatTY
import Derived.Test.YtpjiopgakifhaaaGreatTG
import Derived.WalkKit
import Derived.RegionTactic
import Derived.ChangeAlike
import Derived.KernelRfl
set_option linter.unusedSectionVars false
set_option linter.unusedSimpArgs false
set_option linter.unusedVariables false
set_option maxRecDepth 100000
namespace Go.Proofs.Pl
open Go Go.Sx Go.Proofs Go.RowKit Go.Proofs.Top Go.Proofs.Big
variable [bW]
theorem g0 :Fact Tryz.prog 44 e0.2.1 e0.2.2:=au okW Top.hm (by kernel_rfl) n0
theorem g1 :Fact Tryz.prog 60 e1.2.1 e1.2.2:=au okW Top.hm (by kernel_rfl) n1
theorem g2 :Fact Tryz.prog 60 e2.2.1 e2.2.2:=au okW Top.hm (by kernel_rfl) n2
theorem g3 :Fact Tryz.prog 141 e3.2.1 e3.2.2:=au (okW.more (.cons g2<| .cons g0<| .nil)) Top.hm (by kernel_rfl) n3
theorem g4 :Fact Tryz.prog 31 e4.2.1 e4.2.2:=au (okW.more (.cons g3<| .cons g2<| .cons g0<| .nil)) Top.hm (by kernel_rfl) n4
theorem g5 :Fact Tryz.prog 17 e5.2.1 e5.2.2:=au (okW.more (.cons g4<| .cons g1<| .cons g0<| .nil)) Top.hm (by kernel_rfl) n5
theorem g6 :Fact Tryz.prog 60 e6.2.1 e6.2.2:=au okW Top.hm (by kernel_rfl) n6
theorem g7 :Fact Tryz.prog 141 e7.2.1 e7.2.2:=au (okW.more (.cons g6<| .cons g0<| .nil)) Top.hm (by kernel_rfl) n7
theorem g8 :Fact Tryz.prog 31 e8.2.1 e8.2.2:=au (okW.more (.cons g7<| .cons g6<| .cons g0<| .nil)) Top.hm (by kernel_rfl) n8
theorem g9 :Fact Tryz.prog 17 e9.2.1 e9.2.2:=au (okW.more (.cons g8<| .cons g6<| .cons g0<| .nil)) Top.hm (by kernel_rfl) n9
theorem g10 :Fact Tryz.prog 60 Ws.2.1 Ws.2.2:=au okW Top.hm (by kernel_rfl) n10
theorem g11 :Fact Tryz.prog 141 e11.2.1 e11.2.2:=au (okW.more (.cons g10<| .cons g0<| .nil)) Top.hm (by kernel_rfl) n11
theorem g12 :Fact Tryz.prog 31 WX.2.1 WX.2.2:=au (okW.more (.cons g11<| .cons g10<| .cons g0<| .nil)) Top.hm (by kernel_rfl) n12
theorem g13 :Fact Tryz.prog 17 e13.2.1 e13.2.2:=au (okW.more (.cons g12<| .cons g10<| .cons g0<| .nil)) Top.hm (by kernel_rfl) n13
theorem g14 :Fact Tryz.prog 60 U8.2.1 U8.2.2:=au okW Top.hm (by kernel_rfl) n14
theorem g15 :Fact Tryz.prog 141 YQ.2.1 YQ.2.2:=au (okW.more (.cons g14<| .cons g0<| .nil)) Top.hm (by kernel_rfl) n15
theorem g16 :Fact Tryz.prog 31 e16.2.1 e16.2.2:=au (okW.more (.cons g15<| .cons g14<| .cons g0<| .nil)) Top.hm (by kernel_rfl) n16
theorem g17 :Fact Tryz.prog 17 e17.2.1 e17.2.2:=au (okW.more (.cons g16<| .cons g14<| .cons g0<| .nil)) Top.hm (by kernel_rfl) n17
theorem g18 :Fact Tryz.prog 60 TH.2.1 TH.2.2:=au okW Top.hm (by kernel_rfl) n18
theorem g19 :Fact Tryz.prog 350 e19.2.1 e19.2.2:=au okW Top.hm (by kernel_rfl) n19
theorem g20 :Fact Tryz.prog 350 e20.2.1 e20.2.2:=au okW Top.hm (by kernel_rfl) n20
theorem g21 :Fact Tryz.prog 309 S6.2.1 S6.2.2:=au okW Top.hm (by kernel_rfl) n21
theorem g22 :Fact Tryz.prog 309 e22.2.1 e22.2.2:=au okW Top.hm (by kernel_rfl) n22
theorem g23 :Fact Tryz.prog 261 YR.2.1 YR.2.2:=au (okW.more (.cons g22<| .cons g21<| .nil)) Top.hm (by kernel_rfl) n23
theorem g24 :Fact Tryz.prog 309 e24.2.1 e24.2.2:=au okW Top.hm (by kernel_rfl) n24
theorem g25 :Fact Tryz.prog 260 e25.2.1 e25.2.2:=au okW Top.hm (by kernel_rfl) n25
theorem g26 :Fact Tryz.prog 388 ZF.2.1 ZF.2.2:=au (okW.more (.cons g25<| .cons g24<| .cons g21<| .cons g23<| .nil)) Top.hm (by kernel_rfl) n26
theorem g27 :Fact Tryz.prog 227 XY.2.1 XY.2.2:=au (okW.more (.cons g26<| .cons g20<| .cons g19<| .nil)) Top.hm (by kernel_rfl) n27
theorem g28 :Fact Tryz.prog 261 e28.2.1 e28.2.2:=au (okW.more (.cons g22<| .cons g21<| .nil)) Top.hm (by kernel_rfl) n28
theorem g29 :Fact Tryz.prog 209 e29.2.1 e29.2.2:=au (okW.more (.cons g24<| .cons g21<| .cons g28<| .nil)) Top.hm (by kernel_rfl) n29
theorem g30 :Fact Tryz.prog 216 Yu.2.1 Yu.2.2:=au okW Top.hm (by kernel_rfl) n30
theorem g31 :Fact Tryz.prog 276 Zj.2.1 Zj.2.2:=au okW Top.hm (by kernel_rfl) n31
theorem g32 :Fact Tryz.prog 74 e32.2.1 e32.2.2:=au (okW.more (.cons g31<| .cons g30<| .cons g28<| .cons g29<| .cons g27<| .cons g18<| .cons g0<| .nil)) Top.hm (by kernel_rfl) n32
theorem g33 :Fact Tryz.prog 141 Yn.2.1 Yn.2.2:=au (okW.more (.cons g18<| .cons g0<| .nil)) Top.hm (by kernel_rfl) n33
theorem g34 :Fact Tryz.prog 31 ZW.2.1 ZW.2.2:=au (okW.more (.cons g33<| .cons g32<| .cons g18<| .cons g0<| .nil)) Top.hm (by kernel_rfl) n34
theorem g35 :Fact Tryz.prog 17 ZS.2.1 ZS.2.2:=au (okW.more (.cons g34<| .cons g18<| .cons g0<| .nil)) Top.hm (by kernel_rfl) n35
theorem g36 :Fact Tryz.prog 60 Vw.2.1 Vw.2.2:=au okW Top.hm (by kernel_rfl) n36
theorem g37 :Fact Tryz.prog 141 YD.2.1 YD.2.2:=au (okW.more (.cons g36<| .cons g0<| .nil)) Top.hm (by kernel_rfl) n37
theorem g38 :Fact Tryz.prog 31 YU.2.1 YU.2.2:=au (okW.more (.cons g37<| .cons g36<| .cons g0<| .nil)) Top.hm (by kernel_rfl) n38
theorem g39 :Fact Tryz.prog 17 Zt.2.1 Zt.2.2:=au (okW.more (.cons g38<| .cons g36<| .cons g0<| .nil)) Top.hm (by kernel_rfl) n39
theorem g40 :Fact Tryz.prog 60 UI.2.1 UI.2.2:=au okW Top.hm (by kernel_rfl) n40
theorem g41 :Fact Tryz.prog 141 Xx.2.1 Xx.2.2:=au (okW.more (.cons g40<| .cons g0<| .nil)) Top.hm (by kernel_rfl) n41
theorem g42 :Fact Tryz.prog 31 e42.2.1 e42.2.2:=au (okW.more (.cons g41<| .cons g40<| .cons g0<| .nil)) Top.hm (by kernel_rfl) n42
theorem g43 :Fact Tryz.prog 17 e43.2.1 e43.2.2:=au (okW.more (.cons g42<| .cons g40<| .cons g0<| .nil)) Top.hm (by kernel_rfl) n43
theorem g44 :Fact Tryz.prog 60 Wc.2.1 Wc.2.2:=au okW Top.hm (by kernel_rfl) n44
theorem g45 :Fact Tryz.prog 141 YA.2.1 YA.2.2:=au (okW.more (.cons g44<| .cons g0<| .nil)) Top.hm (by kernel_rfl) n45
theorem g46 :Fact Tryz.prog 31 YL.2.1 YL.2.2:=au (okW.more (.cons g45<| .cons g44<| .cons g0<| .nil)) Top.hm (by kernel_rfl) n46
theorem g47 :Fact Tryz.prog 17 e47.2.1 e47.2.2:=au (okW.more (.cons g46<| .cons g44<| .cons g0<| .nil)) Top.hm (by kernel_rfl) n47
theorem VX :Fact Tryz.prog 7 [] .tt:=au (okW.more (.cons g47<| .cons g43<| .cons g39<| .cons g35<| .cons g17<| .cons g13<| .cons g9<| .cons g5<| .cons g0<| .nil)) Top.hm (by kernel_rfl) m7
end Go.Proofs.Pl
namespace Go.Proofs.Big
open Go Go.Sx Go.Proofs Go.RowKit Go.Proofs.Top
variable [bW]
def o0 :jA:=([],0,[],0)
def h0 :H5:=(0,0,0,0,0)
def Gi (v i:Int) (h:Bool):Int:=if h=true then xh v-v/2 else-1000+i*v
def DD (v:Int) (h:Bool):Int:=if h=true then-(v/2)else v
def FM (v m:Int) (h:Bool):Bool:=h&&decide (m<=v)
def gg (v i:Int) (e h:Bool):Prop:=0<=i/\(h=false->i<=900/v/\(e=false↔i=0))/\(h=true->i=900/v+1/\e=true)
def uA (v:Int) (aw:Bool) (i n:Int):Prop:=0<=i/\i<=40/\n=if aw=false/\900/v<i then 1 else 0
attribute [irreducible] Gi DD FM gg uA
def qR :Code->Option Code
 | .loop c=>some (.loop c)
 | .seq a b=>match qR a with
  |some c=>some c
  |none=>qR b
 | .block _ c=>qR c
 |_=>none
def zW :Code->Code
 | .seq a b=>match a with
  | .seq _ (.block _ _)=>b
  |_=>zW b
 |c=>c
def fstC :Code->Code
 | .seq a _=>a
 |c=>c
def sndC :Code->Code
 | .seq _ b=>b
 |c=>c
noncomputable def G3 :Code:=(qR (mB Tryz.f6)).getD .skip
noncomputable def Eo :Code:=zW (mB Tryz.f6)
noncomputable def midA :Code:=fstC Eo
noncomputable def Ec :Code:=fstC (sndC Eo)
noncomputable def GB :Code:=sndC (sndC Eo)
def stL (v m:Int):Port where
 T:=Int×Bool×Bool
 rd s k:=Ao s (.tm 10) fun x=>match x with
  | .int _ i=>Ao s (.sg 0 2) fun y=>match y with
   | .aq=>Ao s (.tm 9) fun z=>match z with
    | .ff=>k (i,false,false)
    | .bool b=>k (i,false,b)
    |_=>False
   | .emp=>Ao s (.tm 9) fun z=>match z with
    | .ff=>k (i,true,false)
    | .bool b=>k (i,true,b)
    |_=>False
   |_=>False
  |_=>False
 ws _ x:=match x with
  |(i,e,h)=>[(.tm 10, .v (.int .i64 i)),(.tm 9, .v (.bool h)),(.sg 0 0, .s (.s (I i))),(.sg 0 1, .s (.s (dv (Gi v i h) (DD v h)))),(.sg 0 2, .s (.s (kS e))),(.sg 0 3, .s (.s (kS e))),(.sg 0 4, .s (.s (.aI 1 1 fun _=>[.bool (FM v m h)]))),(.sg 0 5, .s (.s (.int .u32 0)))]
 all k:= ∀i h,k (i,false,h)/\k (i,true,h)
 ok s k h:=by
  obtain⟨x,h⟩:=rj h;split at h
  . obtain⟨y,h⟩:=rj h;split at h
    . obtain⟨z,h⟩:=rj h;split at h
      . exact⟨_,h⟩
      . exact⟨_,h⟩
      . exact h.elim
    . obtain⟨z,h⟩:=rj h;split at h
      . exact⟨_,h⟩
      . exact⟨_,h⟩
      . exact h.elim
    . exact h.elim
  . exact h.elim
 oT k h x:=by
  obtain⟨i,e,b⟩:=x;cases e
  . exact(h i b).1
  . exact(h i b).2
def annA (v m:Int):kM:=⟨.unit,stL v m,fun _ (x:Int×Bool×Bool)=>gg v x.1 x.2.1 x.2.2,fun _ (x:Int×Bool×Bool)=>(40-x.1).toNat⟩
def annB (v:Int) (aw:Bool):kM:=⟨.unit, .list [.int .i64 (.tm 18), .int .i64 (.tm 17)],fun _ (x:Int×Int)=>uA v aw x.1 x.2,fun _ (x:Int×Int)=>(40-x.1).toNat⟩
def UN (m:Int):SV:= .rA 18 1 (fun _=>[I 100,I 1,I 0,I 0,I 0,I 0,I 0, .aq, .aI 13 1 (fun _=>[.str [119],I 3,I 0,I 0,I (-400),I 0,I 400,I 8,I 0,I 0,I m,I 3,I 9]), .aq, .aq, .aq, .aq, .aq, .aq, .aq, .aq, .aq]) 0 0
def tmA (v m:Int):List SV:=((((((List.replicate 213 SV.any).set 5 (I v)).set 6 (I m)).set 7 (UN m)).set 8 (.ptr 0 0)).set 9 .ff).set 10 (I 0)
def ceA (v:Int):List SV:=[I 0,dv (-1000) v, .aq, .aq, .aI 1 1 fun _=>[.ff], .int .u32 0]
def stA0 (v m:Int):bg:=⟨tmA v m,[(⟨0,false,false,none,6,0,[none,none,none,none,none,none]⟩,(ceA v).map .s)]⟩
def tmB (v m:Int):List SV:=(((List.replicate 213 SV.any).set 5 (I v)).set 6 (I m)).set 7 (UN m)|>.set 8 (.ptr 0 0)
def ceB (v tk:Int) (aw:Bool):List SV:=[I tk,dv (-1000) v, .emp, .emp, .aI 1 1 fun _=>[.bool aw], .int .u32 0]
def stB0 (v m tk:Int) (aw:Bool):bg:=⟨tmB v m,[(⟨0,false,false,none,6,0,[none,none,none,none,none,none]⟩,(ceB v tk aw).map .s)]⟩
def uU (s:bg):Prop:=Ao s (.tm 4) fun x=>match x with
 | .tt=>True
 | .bool b=>b=true
 |_=>False
noncomputable def TL :List (Nat×bB):=[(12,c12),(17,c17)]
noncomputable def XL6 :Ctx:=⟨Tryz.prog,213,WQ TL⟩
def mtAt (s:bg) (i:Nat) (k:lZ->Prop):Prop:=match s.get (.mt i)with
 | .m (some m)=>k m
 |_=>False
def at19 (v m:Int) (s:bg):Prop:=Ao s (.tm 5) (fun x=>KY pk eL x (I v))/\Ao s (.tm 6) (fun x=>KY pk eL x (I m))/\Ao s (.tm 7) (fun x=>KY pk eL x (UN m))/\Ao s (.tm 8) (fun x=>match x with| .ptr a b=>a=0/\b=0|_=>False)/\
 Ao s (.sg 0 0) (fun x=>KY pk eL x (I (900/v+1)))/\Ao s (.sg 0 1) (fun x=>KY pk eL x (dv (xh v-v/2) (-(v/2))))/\Ao s (.sg 0 2) (fun x=>KY pk eL x .emp)/\Ao s (.sg 0 3) (fun x=>KY pk eL x .emp)/\
 Ao s (.sg 0 4) (fun x=>KY pk eL x (.aI 1 1 fun _=>[.bool (decide (m<=v))]))/\Ao s (.sg 0 5) (fun x=>KY pk eL x (.int .u32 0))/\mtAt s 0 fun m=>m.gN=false/\m.row=false/\m.ns=6
noncomputable def endA (v m:Int) (i:Nat) (s:bg):Prop:=match Nat.beq i 0 with
 |true=>oV XL6 midA [] s (at19 v m) (fun _ _=>False) uU
 |false=>False
noncomputable def vc6a (v:Int) (m:Int):Prop:=(stA0 v m).force fun s=>oV XL6 G3 [(annA v m,0)] s (fun _=>False) (endA v m) uU
noncomputable def vc6b (v:Int) (m:Int) (tk:Int) (aw:Bool):Prop:=(stB0 v m tk aw).force fun s=>oV XL6 GB [(annB v aw,0)] s (fun _=>False) (fun _ _=>False) uU
theorem vc6a_eq (v:Int) (m:Int):(
 let f:=sm 1
 let w:=sm 0
 let g:=fun(x:Nat)=>x<1
 let t:=sm (1:Int)
 let d:=sm (0:Int)
 let K:=sm (3:Int)
 let L:=fun(x:Int)=>sm (100:Int)/\t/\d/\d/\d/\d/\d/\True/\(f/\ ∀(i:Nat),g i->sm [(119:UInt8)]/\K/\d/\d/\sm (-400:Int)/\d/\sm (400
  :Int)/\sm (8:Int)/\d/\d/\x=x/\K/\sm (9:Int)/\True)/\ab (9:Nat) True
 let y:=fun(x:Int)=>f/\w/\ ∀(i:Nat),g i->L x
 let z:=false=false
 let G:=ab 202 True
 let u:=(none:Option (Nat×Nat))
 let M:=[u,u,u,u,u,u]
 let H:=M=M
 let j:=d/\True
 let N:=fun(x v m:Int) (x1:Bool)=>L x/\(v=v/\(f/\ ∀(i_1:Nat),g i_1->t/\d/\d/\sm (Gi m v x1)/\d/\DD m x1=DD m x1/\j)/\ab 2 ((f/\ ∀(i
  :Nat),g i->sm (FM m x x1)/\True)/\j))/\(d/\d/\j)/\True
 let k:=fun(x1 y1 u1:Int) (v1:Bool)=>{tk:=x1,x:=Gi y1 x1 v1,v:=DD y1 v1,m:=u1,e:=false,aw:=FM y1 u1 v1,c:=0:AD}
 let A:=True/\False
 let O:=false=true->A
 let o:=fun(x v m:Int) (x1:Bool)=>decide (↑(fF (k x v m x1))>(0:Int))
 let J:=(0:Int)<=(0:Int)
 let B:=fun(x:Int) (v:Bool)=>DD x v !=x
 let s:=ab 2 False
 let C:=J/\(0:Int)<(1:Int)
 let D:=fun(x v:Int)=>decide (x>=v)
 let P:=fun(x v m:Int) (x1:Bool)=> !uH (k x v m x1)==D v m
 let Q:=fun(x v m:Int) (x1:Bool)=> !(pf (k x v m x1)==512)==D v m
 let R:=fun(x v m:Int) (x1:Bool)=>pf (k x v m x1) !=0
 let p:=fun(x:Int)=>W (x+1)
 let T:=fun(x:Int)=>(40-p x).toNat<(40-x).toNat
 let c0:=fun(x v m:Int) (x1:Bool)=>gg x (p v) true (o v x m x1)/\T v/\ab 5 (x=x/\m=m/\y m/\True/\sm (o v x m x1)/\sm (p v)/\G)/\H/\(v+
  1=p v/\(f/\ ∀(i_1:Nat),g i_1->t/\d/\d/\xN (k v x m x1)=Gi x (p v) (o v x m x1)/\d/\vN (k v x m x1)=DD x (o v x m x1)/\j)/\ab 2 ((f/\ ∀(i_1
  :Nat),g i_1->uH (k v x m x1)=FM x m (o v x m x1)/\True)/\j))/\True
 let c1:=fun(x v m:Int) (x1:Bool)=>((!o x v m x1)=true->True/\(R x v m x1=true->A)/\(R x v m x1=false->ab 2 (c0 v x m x1)))/\((!o x v m x1)
  =false->ab 3 (c0 v x m x1))
 let E:=fun(x:Bool)=>(!x)=false
 let F:=fun(x:Int) (v:Bool)=>decide (DD x v>=0)
 let c2:=fun(x v:Int)=>x=900/v+1
 let c3:=fun(x v:Int) (m:Bool)=>f/\ ∀(i_1:Nat),g i_1->t/\d/\d/\Gi x v m=xh x-x/2/\d/\DD x m= -(x/2)/\j
 let c4:=fun(x v:Int) (m:Bool)=>(f/\ ∀(i:Nat),g i->FM x v m=decide (v<=x)/\True)/\d/\z/\z/\sm 6
 let c5:=fun(x:Bool) (v m x1:Int)=>((!x)=true->s)/\(E x->C/\True/\(F v x=true->A)/\(F v x=false->v=v/\m=m/\y m/\(w/\w)/\c2 x1 v/\
  c3 v x1 x/\False/\False/\c4 v m x))
 let q:=fun(x1 y1 u1:Int) (v1:Bool)=>{tk:=x1,x:=Gi y1 x1 v1,v:=DD y1 v1,m:=u1,e:=true,aw:=FM y1 u1 v1,c:=0:AD}
 let r:=fun(x v m:Int) (x1:Bool)=>decide (↑(fF (q x v m x1))>(0:Int))
 let c6:=fun(x v m:Int) (x1:Bool)=> !uH (q x v m x1)==D v m
 let c7:=fun(x v m:Int) (x1:Bool)=> !(pf (q x v m x1)==512)==D v m
 let c8:=fun(x v m:Int) (x1:Bool)=>pf (q x v m x1) !=0
 let c9:=fun(x v m:Int) (x1:Bool)=>gg x (p v) true (r v x m x1)/\T v/\ab 5 (x=x/\m=m/\y m/\True/\sm (r v x m x1)/\sm (p v)/\G)/\H/\(v+
  1=p v/\(f/\ ∀(i_1:Nat),g i_1->t/\d/\d/\xN (q v x m x1)=Gi x (p v) (r v x m x1)/\d/\vN (q v x m x1)=DD x (r v x m x1)/\j)/\ab 2 ((f/\ ∀(i_1
  :Nat),g i_1->uH (q v x m x1)=FM x m (r v x m x1)/\True)/\j))/\True
 let d0:=fun(x v m:Int) (x1:Bool)=>((!r x v m x1)=true->True/\(c8 x v m x1=true->A)/\(c8 x v m x1=false->ab 2 (c9 v x m x1)))/\((!r x v m x1)
  =false->ab 3 (c9 v x m x1))
 let d1:=fun(x:Bool) (v m x1:Int)=>((!x)=true->s)/\(E x->C/\True/\(F v x=true->A)/\(F v x=false->v=v/\m=m/\y m/\(w/\w)/\c2 x1 v/\
  c3 v x1 x/\ab 2 (c4 v m x)))
 (gg v (0:Int) false false/\ab (5:Nat) (v=v/\m=m/\y m/\True/\z/\d/\G)/\H/\(d/\(f/\ ∀(i:Nat),g i->t/\d/\d/\(-1000:Int)=Gi v (0:
  Int) false/\d/\v=DD v false/\j)/\ab (2:Nat) ((f/\ ∀(i:Nat),g i->FM v m false=false/\True)/\j))/\True)/\ ∀(i:Int) (h:Bool),(gg v i false
  h->(decide (i<(40:Int))=true->True/\((!h)=true->ab (3:Nat) ((N m i v h/\D7 (k i v m h))/\ab (2:Nat) (O/\(z->True/\(o i v m h=true->(J
  /\(0:Int)< ↑(fF (k i v m h)))/\(B v h=true->s)/\(B v h=false->C/\(P i v m h=true->s)/\(P i v m h=false->(Q i v m h=true->s)/\(Q i v m h
  =false->c1 i v m h))))/\(o i v m h=false->c1 i v m h)))))/\(E h->c5 h v m i))/\(decide (i<(40:Int))=false->True/\c5 h v m i))/\(gg v i true
  h->(decide (i<(40:Int))=true->True/\((!h)=true->ab (3:Nat) ((N m i v h/\D7 (q i v m h))/\ab (2:Nat) (O/\(z->True/\(r i v m h=true->(J
  /\(0:Int)< ↑(fF (q i v m h)))/\(B v h=true->s)/\(B v h=false->C/\(c6 i v m h=true->s)/\(c6 i v m h=false->(c7 i v m h=true->s)/\(c7 i v
  m h=false->d0 i v m h))))/\(r i v m h=false->d0 i v m h)))))/\(E h->d1 h v m i))/\(decide (i<(40:Int))=false->True/\d1 h v m i)))=vc6a v m:=by kernel_rfl
theorem vc6b_eq (v:Int) (m:Int) (tk:Int) (aw:Bool):(
 let z:=sm (1:Int)
 let d:=sm (0:Int)
 let g:=sm 1
 let h:=fun(x:Nat)=>x<1
 let K:=sm (3:Int)
 let L:=sm (8:Int)
 let p:=fun(x:Int)=>sm (100:Int)/\z/\d/\d/\d/\d/\d/\True/\(g/\ ∀(i:Nat),h i->sm [(119:UInt8)]/\K/\d/\d/\sm (-400:Int)/\d/\sm (400
  :Int)/\L/\d/\d/\x=x/\K/\sm (9:Int)/\True)/\ab (9:Nat) True
 let j:=d/\True
 let M:=fun(x:Bool)=>ab 2 ((g/\ ∀(i:Nat),h i->x=x/\True)/\j)
 let A:=fun(x v:Int) (m:Bool)=>x=x/\(g/\ ∀(i:Nat),h i->z/\d/\d/\sm (-1000)/\d/\v=v/\j)/\M m
 let B:=sm 40
 let N:= ∀(i:Nat),i<40->d/\d/\j
 let O:=sm 0
 let P:=fun(x:Int)=>g/\O/\ ∀(i:Nat),h i->p x
 let k:=fun(x:Int) (v:Bool)=>(yI x v 40).length
 let q:=fun(x:Int) (v:Bool) (m:Nat)=>((yI x v 40).getD m o0).fst
 let C:=fun(x:Int) (v:Bool) (m s:Nat)=>((q x v m).getD s h0).snd
 let Q:=fun(x:Int) (v:Bool) (m s:Nat)=>(C x v m s).snd.snd
 let D:=fun(x:Int) (v:Bool) (m:Nat)=>((yI x v 40).getD m o0).snd
 let E:=fun(x:Int) (v:Bool) (m:Nat)=>(D x v m).snd.fst
 let r:=fun(x:Int) (v:Bool)=>sm (k x v)/\ ∀(i:Nat),i<k x v->(sm (q x v i).length/\ ∀(i_1:Nat),i_1<(q x v i).length->sm ((q x v i).getD i_1
  h0).fst/\sm (C x v i i_1).fst/\sm (C x v i i_1).snd.fst/\sm (Q x v i i_1).fst/\sm (Q x v i i_1).snd/\True)/\sm (D x v i).fst/\(sm (E x v i).length/\ ∀(i_1
  :Nat),i_1<(E x v i).length->sm ((E x v i).getD i_1 (aF IntKind.i64).qW)/\True)/\sm (D x v i).snd.snd/\True
 let t:=fun(x v:Int) (m:Bool)=>sm (x+40)/\(g/\ ∀(i:Nat),h i->z/\d/\d/\sm (wR v m 40)/\d/\sm (tB v m 40)/\j)/\M m
 let R:=fun(x v:Int) (m:Bool)=>t x v m/\r v m/\True/\True
 let T:=fun(x v m:Int) (s:Bool)=>ab 102 (R x v s/\p m/\A x v s/\(O/\B)/\R x v s/\t x v s/\r v s/\ab 85 True)
 let f:=(none:Option (Nat×Nat))
 let F:=([]:List (Option (Nat×Nat)))
 let c0:=f::f::f::f::f::f::F
 let u:=([]:List ar)
 let w:=ar.s SV.aq::u
 let c1:=List.map ar.shape (ar.s (SV.int IntKind.i64 0)::u++(w++(w++(w++(w++(ar.s (SV.int IntKind.u32 0)::u++u))))))
 let c2:=fun(x v:Int) (m:Bool)=>c0=c0/\A x v m/\F=F/\((B/\sm 3/\N)/\True)/\c1=c1/\t x v m/\True
 let G:=fun(x v:Int) (m:Bool)=>0<=x/\x< ↑(k v m)
 let H:=fun(x v:Int)=>decide (x>=v)
 let c3:=fun(x v m:Int) (s:Bool)=> !(((yI x s 40).getD v.toNat o0).snd.fst !=0)==H x m
 let J:=fun(x v:Int) (m:Bool)=>(↑((yI x m 40).getD v.toNat o0).fst.length:Int)
 let c4:=fun(x v:Int) (m:Bool)=>J x v m==0
 let y:=True/\False
 let c5:=fun(x v m s x1:Int) (y1:Bool)=>uA x y1 (W (v+1)) (W (m+J x v y1))/\(40-W (v+1)).toNat<(40-v).toNat/\ab 5 (x=x/\s=s/\P s
  /\ab 7 (r x y1/\True/\sm (W (m+J x v y1))/\sm (W (v+1))/\T x1 x s y1))/\c2 x1 x y1
 let c6:=fun(x v m:Int)=> !(x==0)==H v m
 let c7:=(0:Int)<=(0:Int)/\(0:Int)<(1:Int)
 let c8:=fun(x v:Int) (m:Bool)=> !decide (tB x m 40>0)==H x v
 let o:=fun(s x1 y1:Int) (u1:Bool)=>{tk:=s+40,x:=wR x1 u1 40,v:=tB x1 u1 40,m:=y1,e:=true,aw:=u1,c:=8:AD}
 let c9:=0==0
 let d0:=fun(x v m:Int) (s:Bool)=>pf (o x v m s)==0
 (sm (40:Int)/\(0:Int)<=(40:Int)/\(40:Int)<=(9223372036854775807:Int)/\(960:Int)<=(281474976710656:Int))/\ab (2:Nat) (((40:Nat)<=(40:
  Nat)/\ ∀(i:Nat),i<(40:Nat)->true=true)/\((p m/\A tk v aw/\(B/\N)/\True)/\ue tk v m aw)/\ru true/\ab (2:Nat) ((uA v aw (0:Int) (0:
  Int)/\ab (5:Nat) (v=v/\m=m/\P m/\ab (7:Nat) (r v aw/\True/\d/\d/\T tk v m aw))/\c2 tk v aw)/\ ∀(n n_1:Int),uA v aw n n_1->True/\(decide
  (n< ↑(k v aw))=true->G n v aw/\True/\G n v aw/\(c3 v n m aw=true->G n v aw/\True/\(c4 v n aw=true->y)/\(c4 v n aw=false->True/\c5 v n n_1 m tk
  aw))/\(c3 v n m aw=false->ab (2:Nat) (c5 v n n_1 m tk aw)))/\(decide (n< ↑(k v aw))=false->(c6 n_1 v m=true->ab (2:Nat) False)/\(c6 n_1 v m=
  false->c7/\True/\(c8 v m aw=true->y)/\(c8 v m aw=false->ab (3:Nat) (((p m/\t tk v aw/\(L/\d/\j)/\True)/\D7 (o tk v m aw))/\True/\(c9=true
  ->c7/\((!uH (o tk v m aw))=true->(d0 tk v m aw=true->True/\True)/\(d0 tk v m aw=false->True/\decide (↑(fF (o tk v m aw))>(0:Int))=true))/\
  ((!uH (o tk v m aw))=false->y))/\(c9=false->y))))))))=vc6b v m tk aw:=by kernel_rfl
theorem restA_is :Eo= .seq midA (.seq Ec GB):=by kernel_rfl
theorem s1x_f (v i:Int):Gi v i false= -1000+i*v:=by unfold Gi;rfl
theorem s1x_t (v i:Int):Gi v i true=xh v-v/2:=by unfold Gi;rfl
theorem Ge (v:Int):DD v false=v:=by unfold DD;rfl
theorem Mo (v:Int):DD v true= -(v/2):=by unfold DD;rfl
theorem s1w_f (v m:Int):FM v m false=false:=by unfold FM;rfl
theorem s1w_t (v m:Int):FM v m true=decide (m<=v):=by unfold FM;rfl
theorem step1 {v m i:Int} {e:Bool} {a:AD} (ha:a=⟨i,Gi v i false,DD v false,m,e,FM v m false,0⟩) (h1:60<=v) (h2:v<=559) (h3:0<=m) (h4:m<=599) (hinv:gg v i e false) (hi:i<40):
 D7 a/\(gg v (i+1) true (decide (0<fF a))/\(xN a=Gi v (i+1) (decide (0<fF a))/\vN a=DD v (decide (0<fF a)))/\uH a=FM v m (decide (0<fF a)))/\(0<fF a->uH a=decide (m<=v)/\(pf a==512)=decide (m<=v))/\(fF a=0->pf a=0):=by
 rw [s1x_f,Ge,s1w_f]at ha;unfold gg at hinv;obtain⟨g0,g1,_⟩:=hinv;obtain⟨g1,g2⟩:=g1 rfl;obtain⟨n1,n2⟩:=IS h1 h2;obtain⟨x1,x2,x3⟩:=Gy h1;have hx:xh v= -1000+900/v*v:=by unfold xh;rfl
 have e1:(i+1)*v=i*v+v:=by rw [Qo,K8]
 have c0:0<=i*v:=Ja g0 (by omega)
 by_cases he:i=900/v
 . subst he;have het:e=true:=by
    cases e
    . have:=g2.1 rfl;omega
    . rfl
   subst het;have hh:eD a=true:=by rw [ha,m6];simp;omega
   obtain⟨s1,s2,s3,s4⟩:=F9 hh;have hw:uH a=decide (m<=v):=by rw [s3,ha]
   have hc:(pf a==512)=decide (m<=v):=by unfold pf;rw [hw];cases decide (m<=v)<;>rfl
   rw [s4,decide_eq_true (show 0<1 by omega)];refine⟨?_,⟨?_,⟨?_,?_⟩,?_⟩,fun _=>⟨hw,hc⟩,fun h=>by omega⟩
   . rw [ha];unfold D7;dsimp only;exact⟨by omega,by omega,h3,h4, .inl ⟨rfl,h1,h2,rfl, .inr ⟨rfl, .inr hx.symm⟩⟩⟩
   . unfold gg;exact⟨by omega,fun h=>(by cases h),fun _=>⟨rfl,rfl⟩⟩
   . rw [s1,s1x_t,ha];dsimp only;omega
   . rw [s2,Mo,ha]
   . rw [hw,s1w_t]
 . have c2:(i+1)*v<=900/v*v:=Jh (by omega) (by omega);have hh:eD a=false:=by rw [ha,m6];simp;omega
   obtain⟨s1,s2,s3,s4⟩:=sF hh;have hw:uH a=false:=by rw [s3,ha];rfl
   rw [s4,decide_eq_false (show¬0<0 by omega)];refine⟨?_,⟨?_,⟨?_,?_⟩,?_⟩,fun h=>by omega,fun _=>by unfold pf;rw [hw];rfl⟩
   . rw [ha];unfold D7;dsimp only;refine⟨by omega,by omega,h3,h4, .inl ⟨rfl,h1,h2,rfl,?_⟩⟩;cases e
     . have hi0:=g2.1 rfl;subst hi0;exact .inl ⟨rfl,rfl,by simp⟩
     . exact .inr ⟨rfl, .inl ⟨by omega,by omega⟩⟩
   . unfold gg;exact⟨by omega,fun _=>⟨by omega,⟨fun h=>(by cases h),fun h=>by omega⟩⟩,fun h=>(by cases h)⟩
   . rw [s1,s1x_f,ha];dsimp only;omega
   . rw [s2,Ge,ha]
   . rw [hw,s1w_f]
theorem vc6a_ok {v m:Int} (h1:60<=v) (h2:v<=559) (h3:0<=m) (h4:m<=599):vc6a v m:=by
 rw [<-vc6a_eq];simp only [aA];simp [-List.getD_eq_getElem?_getD];obtain⟨n1,n2⟩:=IS h1 h2;refine⟨⟨?_,⟨by rw [s1x_f];omega,(Ge v).symm⟩,s1w_f v m⟩,fun i=>⟨⟨fun hinv=> ?_,fun hinv=> ?_⟩,fun hinv=> ?_,fun hinv=> ?_⟩⟩
 . unfold gg;exact⟨by omega,fun _=>⟨by omega,by simp⟩,fun h=>(by cases h)⟩
 . have hlt:i<40:=by
    unfold gg at hinv;have:=(hinv.2.1 rfl).1;omega
   obtain⟨o,r,k1,k2⟩:=step1 (e:=false) rfl h1 h2 h3 h4 hinv hlt;rw [aG (n:=i+1) (by unfold gg at hinv;omega) (by omega)];generalize ({tk:=i,x:=Gi v i false,v:=DD v false,m:=m,e:=false,aw:=FM v m false,c:=0}:AD)=a at*
   obtain⟨r1,⟨r2,r3⟩,r4⟩:=r;have rest:=And.intro r1 (And.intro (show max (40-(i+1)) 0<40-i by omega) (And.intro (show True from trivial) (And.intro (And.intro r2 r3) r4)));simp only [true_and]at rest;refine⟨fun _=>⟨o,fun h=>⟨h,Ge v,fun _=>⟨(k1 h).1,fun _=>⟨(k1 h).2,fun _=>⟨fun h0=>⟨k2 h0,fun _=> ?_⟩,fun _=> ?_⟩⟩⟩⟩,fun h=>⟨fun h0=>⟨k2 h0,fun _=> ?_⟩,fun _=> ?_⟩⟩,hlt⟩
   all_goals first|exact rest|exact⟨r1,by omega,rfl,⟨r2,r3⟩,r4⟩|exact⟨r1,by omega,⟨r2,r3⟩,r4⟩
 . have hlt:i<40:=by
    unfold gg at hinv;have:=(hinv.2.1 rfl).1;omega
   obtain⟨o,r,k1,k2⟩:=step1 (e:=true) rfl h1 h2 h3 h4 hinv hlt;rw [aG (n:=i+1) (by unfold gg at hinv;omega) (by omega)];generalize ({tk:=i,x:=Gi v i false,v:=DD v false,m:=m,e:=true,aw:=FM v m false,c:=0}:AD)=a at*
   obtain⟨r1,⟨r2,r3⟩,r4⟩:=r;refine⟨fun _=>⟨o,fun h=>⟨h,Ge v,fun _=>⟨(k1 h).1,fun _=>⟨(k1 h).2,fun _=>⟨fun h0=>⟨k2 h0,fun _=> ?_⟩,fun _=> ?_⟩⟩⟩⟩,fun h=>⟨fun h0=>⟨k2 h0,fun _=> ?_⟩,fun _=> ?_⟩⟩,hlt⟩
   all_goals first|exact⟨r1,by omega,rfl,⟨r2,r3⟩,r4⟩|exact⟨r1,by omega,⟨r2,r3⟩,r4⟩
 . unfold gg at hinv;have:=(hinv.2.2 rfl).2;cases this
 . unfold gg at hinv;have hn:=(hinv.2.2 rfl).1;have hv:DD v true<0:=by rw [Mo];omega
   exact⟨fun _=>⟨hv,fun _=>⟨hn,⟨s1x_t v i,Mo v⟩,s1w_t v m⟩⟩,fun _=>⟨hv,fun _=>⟨hn,⟨s1x_t v i,Mo v⟩,s1w_t v m⟩⟩⟩
theorem ruL_at {v:Int} {aw:Bool} {i n:Int} (h0:0<=n) (h1:n<i):(yI v aw i).getD n.toNat o0=Fv v aw n:=by
 unfold yI;rw [J0,J5,Q9 (by omega)];simp only [K4,K5];rw [show((n.toNat:Nat):Int)=n by omega]
theorem vc6b_ok {v m tk:Int} {aw:Bool} (hp:ue tk v m aw):vc6b v m tk aw:=by
 rw [<-vc6b_eq];simp only [aA];simp [-List.getD_eq_getElem?_getD];have hp':=hp;unfold ue at hp';obtain⟨t0,t1,h1,h2,h3,h4,hb⟩:=hp';obtain⟨n1,n2⟩:=IS h1 h2;obtain⟨x1,x2,x3⟩:=Gy h1;have hlen:((yI v aw 40).length:Int)=40:=by rw [E2];rfl
 have hlen':(yI v aw 40).length=40:=by rw [E2];rfl
 refine⟨hp,by unfold uA;simp;omega,fun n k hinv=>⟨fun hn=> ?_,fun hn=> ?_⟩⟩
 . rw [hlen]at hn⊢;unfold uA at hinv;obtain⟨g0,g1,g2⟩:=hinv;rw [ruL_at g0 hn,aG (n:=n+1) (by omega) (by omega)];have hk:0<=k/\k<=1:=by rw [g2];split<;>omega
   have hO:(Fv v aw n).1.length=if aw=false/\n=900/v then 1 else 0:=by unfold Fv;dsimp only;split<;>rfl
   have hC:(Fv v aw n).2.1=if aw=true then 512 else 0:=by unfold Fv;rfl
   have hcl:((Fv v aw n).2.1 !=0)=decide (m<=v):=by rw [hC,<-hb];cases aw<;>rfl
   have nx:uA v aw (n+1) (W (k+((Fv v aw n).1.length:Int))):=by
    rw [hO,aG (by split<;>omega) (by split<;>omega)];unfold uA;refine⟨by omega,by omega,?_⟩;rw [g2];cases aw
    . by_cases e:n=900/v
      . simp [e];omega
      . have:(900/v<n)↔(900/v<n+1):=by omega
        simp [e,this]
    . simp
   exact⟨⟨g0,hn⟩,fun h=>absurd hcl h,fun _=>⟨nx,by omega⟩⟩
 . rw [hlen]at hn;unfold uA at hinv;obtain⟨g0,g1,g2⟩:=hinv;have:n=40:=by omega
   subst this;cases aw with
   |true=>
    have hm:m<=v:=of_decide_eq_true hb.symm;have hk:k=0:=by rw [g2];simp
    have hok:D7 ⟨tk+40,wR v true 40,tB v true 40,m,true,true,8⟩:=by
     unfold D7;dsimp only;rw [FV,B6];exact⟨by omega,by omega,h3,h4, .inr (.inr ⟨rfl,h1,h2,rfl, .inr ⟨rfl,by omega,by omega⟩⟩)⟩
    have hh:eD ⟨tk+40,wR v true 40,tB v true 40,m,true,true,8⟩=false:=rfl;have hw:=(sF hh).2.2.1;have hw2:uH ⟨tk+40,wR v true 40,tB v true 40,m,true,true,8⟩=false:=by rw [hw];rfl
    have hc:pf ⟨tk+40,wR v true 40,tB v true 40,m,true,true,8⟩=0:=by unfold pf;rw [hw2];rfl
    refine⟨by rw [hk,decide_eq_true hm];rfl,fun _=>⟨by rw [B6];omega,fun _=>⟨hok,fun _ h=>absurd hc h,hw2⟩⟩⟩
   |false=>
    have hm: ¬m<=v:=of_decide_eq_false hb.symm;have hk:k=1:=by rw [g2,if_pos ⟨rfl,by omega⟩]
    have hhi: ¬(40:Int)<=900/v:=by omega
    have d1:(40-900/v)*(v/2)<=40*279:=Qb (by omega) (by omega) (by omega) (by omega);have d0:1*30<=(40-900/v)*(v/2):=Qb (by omega) (by omega) (by omega) (by omega);have hok:D7 ⟨tk+40,wR v false 40,tB v false 40,m,true,false,8⟩:=by
     unfold D7;dsimp only;rw [uX hhi,om hhi];exact⟨by omega,by omega,h3,h4, .inr (.inl ⟨rfl,by omega,by omega,by omega,by omega,rfl, .inr rfl⟩)⟩
    have hh:eD ⟨tk+40,wR v false 40,tB v false 40,m,true,false,8⟩=false:=by
     rw [m6];dsimp only;rw [uX hhi,om hhi];simp;omega
    have hw:=(sF hh).2.2.1;have hw2:uH ⟨tk+40,wR v false 40,tB v false 40,m,true,false,8⟩=false:=by rw [hw];rfl
    have hc:pf ⟨tk+40,wR v false 40,tB v false 40,m,true,false,8⟩=0:=by unfold pf;rw [hw2];rfl
    refine⟨by rw [hk,decide_eq_false hm];rfl,fun _=>⟨by rw [om hhi];omega,fun _=>⟨hok,fun _ h=>absurd hc h,hw2⟩⟩⟩
end Go.Proofs.Big
namespace Go.Proofs.Big
open Go Go.Sx Go.Proofs Go.RowKit Go.Proofs.Top
attribute [local go_sem] Oper.semAt_some
theorem Sk {P:Program} {c c':Code} {Q:Exit->Act->World->Prop} {a:Act} {w:World} (h:c'=c) (k:c'.wp P Q a w):c.wp P Q a w:=h▸k
abbrev vJ (n:Int):Value:= .int .i64 n
def dj :Value:= .slice none 0 0
def Gu (x v:Int):List Value:=[vJ 1,vJ 0,vJ 0,vJ x,vJ 0,vJ v,vJ 0]
abbrev G4 (W:World) (b o:Nat) (x v:Int):World:=
 ((((((W.setCell ⟨b,o,none⟩ (vJ 1)).setCell ⟨b,o+1,none⟩ (vJ 0)).setCell ⟨b,o+2,none⟩ (vJ 0)).setCell ⟨b,o+3,none⟩ (vJ x)).setCell ⟨b,o+4,none⟩ (vJ 0)).setCell ⟨b,o+5,none⟩ (vJ v)).setCell ⟨b,o+6,none⟩ (vJ 0)
theorem RM {v x0 v0:Int} {W:World} {tmps:Array Value} {bT b o cap:Nat} (hN:tmps.size=213) (h5:tmps.getD 5 undef=vJ v) (h8:tmps.getD 8 undef= .pointer (some ⟨bT,0,none⟩)) (hc:W.cell? ⟨bT,1,none⟩=some (.slice (some ⟨b,o,none⟩) 1 cap))
 (hb: ∀k u,(Gu x0 v0)[k]?=some u->eb W b (o+k) u) {K:Act->World->Prop} {Q:Exit->Act->World->Prop}
 (hk: ∀tmps':Array Value,tmps'.size=213->(∀t,t<9->tmps'.getD t undef=tmps.getD t undef)->K ⟨tmps',[]⟩ (G4 W b o (-1000) v)):
 Code.wp Tryz.prog Ec (Exit.then K Q) ⟨tmps,[]⟩ W:=by
 obtain⟨c0,f0⟩:=hb 0 _ rfl;obtain⟨c1,f1⟩:=hb 1 _ rfl;obtain⟨c2,f2⟩:=hb 2 _ rfl;obtain⟨c3,f3⟩:=hb 3 _ rfl;obtain⟨c4,f4⟩:=hb 4 _ rfl;obtain⟨c5,f5⟩:=hb 5 _ rfl;obtain⟨c6,f6⟩:=hb 6 _ rfl;clear hb;simp only [Jv]at c0 f0;have q5:tmps[5]'(by omega)= .int .i64 v:=by rw [show Value.int .i64 v=tmps.getD 5 undef from h5.symm];simp [Array.getD,hN]
 have q8:tmps[8]'(by omega)= .pointer (some ⟨bT,0,none⟩):=by rw [<-h8];simp [Array.getD,hN]
 conv in Ec=>whnf
 go_wp2
 refine hk _ (by simp [hN]) fun t ht=> ?_
 simp only [Jf]
 repeat rw [Ya (by omega)]
theorem _root_.Go.Sx.eb.set {W:World} {b o b' o':Nat} {u n:Value} (h:eb W b' o' u) (e:b'=b->o'=o->u=n):eb (W.setCell ⟨b,o,none⟩ n) b' o' u:=by
 refine⟨?_,by rw [World.frozen?_setCell];exact h.2⟩
 by_cases k:b'=b/\o'=o
 . obtain⟨rfl,rfl⟩:=k;rw [e rfl rfl]at h⊢;exact World.cell?_setCell_same _ _ _ h.1
 . exact(World.cell?_setCell_other _ _ _ _ (fun q=>by injection q with q1 q2 _;exact k ⟨q1.symm,q2.symm⟩)).trans h.1
theorem _root_.Go.Sx.eb.new {W:World} {b o:Nat} {u n:Value} (h:eb W b o u):eb (W.setCell ⟨b,o,none⟩ n) b o n:=
 ⟨World.cell?_setCell_same _ _ _ h.1,by rw [World.frozen?_setCell];exact h.2⟩
def kL (ro:RO) (b o:Nat) (x v:Int):RO:=fun b' o'=>if b'=b/\o'=o+3 then some (vJ x)else if b'=b/\o'=o+5 then some (vJ v)else ro b' o'
theorem JM {ro:RO} {W:World} {b o:Nat} {x0 v0 x v:Int} (hro: ∀b' o' u,ro b' o'=some u->eb W b' o' u) (hb: ∀k u,(Gu x0 v0)[k]?=some u->ro b (o+k)=some u):
 ∀b' o' u,kL ro b o x v b' o'=some u->eb (G4 W b o x v) b' o' u:=by
 intro b' o' u h;have g0:=hb 0 _ rfl;have g1:=hb 1 _ rfl;have g2:=hb 2 _ rfl;have g3:=hb 3 _ rfl;have g4:=hb 4 _ rfl;have g5:=hb 5 _ rfl;have g6:=hb 6 _ rfl;simp only [Jv]at g0;unfold kL at h;split at h
 . rename_i k;obtain⟨rfl,rfl⟩:=k;cases h;exact((((((((hro _ _ _ g3).set fun _ _=>by omega).set fun _ _=>by omega).set fun _ _=>by omega).new).set fun _ _=>by omega).set fun _ _=>by omega).set fun _ _=>by omega)
 . split at h
   . rename_i k;obtain⟨rfl,rfl⟩:=k;cases h;exact((((((((hro _ _ _ g5).set fun _ _=>by omega).set fun _ _=>by omega).set fun _ _=>by omega).set fun _ _=>by omega).set fun _ _=>by omega).new).set fun _ _=>by omega)
   . rename_i k3 k5;refine(((((((hro _ _ _ h).set ?_).set ?_).set ?_).set ?_).set ?_).set ?_).set ?_
     . rintro rfl rfl;rw [g0]at h;exact(Yw h).symm
     . rintro rfl rfl;rw [g1]at h;exact(Yw h).symm
     . rintro rfl rfl;rw [g2]at h;exact(Yw h).symm
     . rintro rfl rfl;exact absurd ⟨rfl,rfl⟩ k3
     . rintro rfl rfl;rw [g4]at h;exact(Yw h).symm
     . rintro rfl rfl;exact absurd ⟨rfl,rfl⟩ k5
     . rintro rfl rfl;rw [g6]at h;exact(Yw h).symm
theorem H3 {w W:World} (h:Below w.heap.size w W) {b o:Nat} (hb:w.heap.size<=b) (x v:Int):Below w.heap.size w (G4 W b o x v):=
 ((((((h.setCell (p:=⟨b,o,none⟩) hb _).setCell (p:=⟨b,o+1,none⟩) hb _).setCell (p:=⟨b,o+2,none⟩) hb _).setCell (p:=⟨b,o+3,none⟩) hb _).setCell (p:=⟨b,o+4,none⟩) hb _).setCell (p:=⟨b,o+5,none⟩) hb _).setCell (p:=⟨b,o+6,none⟩) hb _
theorem poked_at {W:World} {b o i:Nat} (h:i≠b) (x v:Int):(G4 W b o x v).heap[i]?=W.heap[i]?:=by
 unfold G4
 repeat rw [Below.heap_setCell _ _ _ _ h]
section
variable [bW]
def A6 :SV->Bool
 | .int _ _| .str _| .aq| .bool _| .ff| .tt=>true
 |_=>false
theorem DE {ro ro':RO} {o o':Go.Sx.Own} {x:SV} {u:Value} (h:A6 x=true) (hr:Rel ro o x u):Rel ro' o' x u:=by
 cases hr<;>first|(cases h;done)|constructor
def D6 :SV->Prop
 | .int .i64 n=>0<=n
 | .aq| .aI _ _ _| .str _| .bool _=>True
 |_=>False
theorem nn_of {ro:RO} {o:Go.Sx.Own} {x:SV} {u:Value} (h:D6 x) (hr:Rel ro o x u): ∀n,u=vJ n->0<=n:=by
 rintro n rfl;cases hr with
 |int=>exact h
 |_=>first|exact h.elim|(simp [D6]at h)
theorem XQ {ro:RO} {b o:Nat} {x0 v0 x v:Int} (hx:x0<0) (hv:v0<0) (h3:ro b (o+3)=some (vJ x0)) (h5:ro b (o+5)=some (vJ v0)) {b' o':Nat} {u:Value} (h:ro b' o'=some u) (hn: ∀n,u=vJ n->0<=n):kL ro b o x v b' o'=some u:=by
 unfold kL;split
 . rename_i k;obtain⟨rfl,rfl⟩:=k;rw [h3]at h;have:=hn x0 (Yw h).symm;omega
 . split
   . rename_i k;obtain⟨rfl,rfl⟩:=k;rw [h5]at h;have:=hn v0 (Yw h).symm;omega
   . exact h
def mw (m:Int):List SV:=[.str [119],I 3,I 0,I 0,I (-400),I 0,I 400,I 8,I 0,I 0,I m,I 3,I 9]
def FF (m:Int):List SV:=[I 100,I 1,I 0,I 0,I 0,I 0,I 0, .aq, .aI 13 1 (fun _=>mw m), .aq, .aq, .aq, .aq, .aq, .aq, .aq, .aq, .aq]
theorem tabS_is (m:Int):UN m= .rA 18 1 (fun _=>FF m) 0 0:=rfl
theorem JH (m:Int): ∀x∈mw m,A6 x=true:=by simp [mw,A6,I]
theorem wall_nn {m:Int} (hm:0<=m): ∀k x,(mw m)[k]?=some x->k=4\/D6 x:=by
 intro k x h
 match k,h with
 |0,h|1,h|2,h|3,h|5,h|6,h|7,h|8,h|9,h|10,h|11,h|12,h=>cases h;right;simp [D6,I,hm]
 |4,h=>left;rfl
 |k+13,h=>simp [mw]at h
theorem Vr (m:Int): ∀x∈FF m,A6 x=true\/x= .aI 13 1 (fun _=>mw m):=by simp [FF,A6,I]
theorem tab_nn (m:Int): ∀x∈FF m,D6 x:=by simp [FF,D6,I]
theorem Ty {ro:RO} {ow ow':Go.Sx.Own} {b o:Nat} {x0 v0 x v m:Int} (hm0:0<=m) (hx:x0<0) (hv:v0<0) (h3:ro b (o+3)=some (vJ x0)) (h5:ro b (o+5)=some (vJ v0)) {u:Value} (h:Rel ro ow (.aI 13 1 (fun _=>mw m)) u):
 Rel (kL ro b o x v) ow' (.aI 13 1 (fun _=>mw m)) u:=by
 rcases dE h with⟨h,_⟩|⟨bw,kw,cap,vs,rfl,hc,hl,hm,hh⟩
 . cases h
 have at_: ∀k y,(mw m)[k]?=some y->Rel ro Go.Sx.Own.empty y (vs k):=fun k y hy=>by
  have:=hh 0 k y (by omega) hy
  rwa [Yy,Jg]at this
 have len:(mw m).length=13:=rfl;have neg: ∀k n,k<13->vs k=vJ n->n<0->k=4:=fun k n hk hn h0=>by
  have hy:(mw m)[k]?=some ((mw m)[k]'(by omega)):=J4 _;rcases wall_nn hm0 k _ hy with h|h
  . exact h
  . have:=nn_of h (at_ k _ hy) n hn;omega
 have v2:vs 2=vJ 0:=aK (at_ 2 _ rfl);have v6:vs 6=vJ 400:=aK (at_ 6 _ rfl);refine .aI _ _ _ _ bw kw cap vs hc hl (fun k hk=> ?_) fun i j y hi hy=>DE (JH m y (Y1 hy)) (hh i j y hi hy)
 have hk:k<13:=by omega
 have e:=hm k (by omega);unfold kL;split
 . rename_i q;obtain⟨rfl,q⟩:=q;rw [q,h3]at e;have k4:=neg k x0 hk (Yw e).symm hx;subst k4;have e6:=hm 6 (by omega);rw [show kw+6=o+5 by omega,h5,v6]at e6;simp at e6;omega
 . split
   . rename_i q;obtain⟨rfl,q⟩:=q;rw [q,h5]at e;have k4:=neg k v0 hk (Yw e).symm hv;subst k4;have e2:=hm 2 (by omega);rw [show kw+2=o+3 by omega,h3,v2]at e2;simp at e2;omega
   . exact e
theorem tab_keep {ro:RO} {ow ow':Go.Sx.Own} {b o:Nat} {x0 v0 x v m:Int} (hm0:0<=m) (hx:x0<0) (hv:v0<0) (h3:ro b (o+3)=some (vJ x0)) (h5:ro b (o+5)=some (vJ v0)) {u:Value} (h:Rel ro ow (UN m) u):
 Rel (kL ro b o x v) ow' (UN m) u:=by
 rw [tabS_is]at h⊢;obtain⟨bt,kt,vs,rfl,h01,hl,hm,hh⟩:=wT h;refine .rA _ _ _ _ _ _ bt kt vs hl (fun k hk=> ?_) (fun i j y hi hy=> ?_) h01
 . have hk:k<18:=by omega
   have hy:(FF m)[k]?=some ((FF m)[k]'hk):=J4 _;have hr:=hh 0 k _ (by omega) hy;rw [Yy,Jg]at hr;exact XQ hx hv h3 h5 (hm k (by omega)) (nn_of (tab_nn m _ (Y1 hy)) hr)
 . rcases Vr m y (Y1 hy)with hp|rfl
   . exact DE hp (hh i j y hi hy)
   . exact Ty hm0 hx hv h3 h5 (hh i j _ hi hy)
abbrev E6 (w:World):Env:=⟨w.heap.size,w,fun _ _=>none,213,fun _ _=>True,fun _ _ _ _ _ _ _=>trivial⟩
theorem tm_at {E:Env} {ro:RO} {ow:Go.Sx.Own} {s:bg} {w:World} {a:Act} (hg:bA E ro ow s.get w a) {t:Nat} {y:SV} (h:Ao s (.tm t) fun x=>KY pk eL x y):Rel ro ow y (a.tmps.getD t undef):=by
 unfold Ao at h;simp only [bg.get]at h;exact nC (Kp.none _ _) h (hg.tm t _ rfl)
theorem Ep {s:bg} {i q:Nat} {y:SV} (h:Ao s (.sg i q) fun x=>KY pk eL x y): ∃x,St.uC s.get i q= .s x/\ ∀(ro:RO) (ow:Go.Sx.Own) v,Rel ro ow x v->Rel ro ow y v:=by
 unfold Ao at h;split at h
 . rename_i x hx;simp [bg.get]at hx
 . rename_i x hx;exact⟨x,by unfold St.uC;rw [hx],fun ro ow v hr=>nC (Kp.none _ _) h hr⟩
 . exact h.elim
theorem mt_at {s:bg} {i:Nat} {k:lZ->Prop} (h:mtAt s i k): ∃m,s.get (.mt i)= .m (some m)/\k m:=by
 unfold mtAt at h;split at h
 . exact⟨_,by assumption,h⟩
 . exact h.elim
theorem ti {R:Nat->SV->Prop} {l:List SV} {i:Nat} {x:SV} (h: ∀t sv,l[t]?=some sv->R t sv) (k:R i x): ∀t sv,(l.set i x)[t]?=some sv->R t sv:=by
 intro t sv ht;rw [K6]at ht;split at ht
 . rename_i e;subst e;split at ht
   . cases ht;exact k
   . cases ht
 . exact h t sv ht
theorem W8 {R:Nat->SV->Prop} {n:Nat} (k: ∀t,R t .any): ∀t sv,(List.replicate n SV.any)[t]?=some sv->R t sv:=by
 intro t sv ht;rw [Xh]at ht;split at ht
 . cases ht;exact k t
 . cases ht
theorem poke_ok {v m:Int} (h1:60<=v) (hm0:0<=m) {w W:World} {a:Act} {s:bg} (h19:at19 v m s) (hs:dL (E6 w) s.get W a) {K:Act->World->Prop} {Q:Exit->Act->World->Prop}
 (hk: ∀a' W',dL (E6 w) (stB0 v m (900/v+1) (decide (m<=v))).get W' a'->K a' W'):Code.wp Tryz.prog Ec (Exit.then K Q) a W:=by
 obtain⟨ro,ow,hg⟩:=hs;obtain⟨tmps,df⟩:=a;have hd:df=[]:=hg.defs;subst hd;have hN:tmps.size=213:=hg.size;unfold at19 at h19;obtain⟨t5,t6,t7,t8,s0,s1,s2,s3,s4,s5,hmt⟩:=h19;have r5:=tm_at hg t5;have r6:=tm_at hg t6;have r7:=tm_at hg t7;have r8:Rel ro ow (.ptr 0 0) (tmps.getD 8 undef):=by
  unfold Ao at t8;simp only [bg.get]at t8;split at t8
  . rename_i x y z h;obtain⟨rfl,rfl⟩:=t8;exact hg.tm 8 _ (by simp only [bg.get];rw [h])
  . exact t8.elim
 obtain⟨mt,hmt,hz,hr,hns⟩:=mt_at hmt;obtain⟨x0,e0,k0⟩:=Ep s0;obtain⟨x1,e1,k1⟩:=Ep s1;obtain⟨x2,e2,k2⟩:=Ep s2;obtain⟨x3,e3,k3⟩:=Ep s3;obtain⟨x4,e4,k4⟩:=Ep s4;obtain⟨x5,e5,k5⟩:=Ep s5;have hsegs:St.az s.get 0 mt.ns=[x0,x1,x2,x3,x4,x5].map .s:=by
  rw [hns];simp [St.az,Q7,e0,e1,e2,e3,e4,e5]
 have he:=hg.gK 0 mt hmt;rw [hsegs]at he;obtain⟨bT,hbT,p8⟩:=rq r8;have hver:=(he.plain hr).1;have hst:ow.st 0 0=0:=by have:=he.st 0 (by omega);simpa [aa]using this
 rw [hst]at p8;have hl:=he.live bT (by rw [hver];exact hbT) hz;obtain⟨cs,ty,lo,hi,hheap,hlh,_,hle,hcell,hpl,_⟩:=hl.body;rw [HJ]at hlh hle hpl;have hsz:cs.size=6:=hpl hr;have cell: ∀k x,[x0,x1,x2,x3,x4,x5][k]?=some x->Rel ro ow x (cs.getD k undef):=fun k x h=>hcell k x (by rw [Vz];exact h)
 have c0:=aK (k0 _ _ _ (cell 0 x0 rfl));have c1:=k1 _ _ _ (cell 1 x1 rfl);obtain⟨A2,c2⟩:=nR (k2 _ _ _ (cell 2 x2 rfl));obtain⟨A3,c3⟩:=nR (k3 _ _ _ (cell 3 x3 rfl));have c4:=k4 _ _ _ (cell 4 x4 rfl);have c5:=aK (k5 _ _ _ (cell 5 x5 rfl));obtain⟨w1,w2,w3⟩:=Gy h1;rcases dE c1 with⟨h,_⟩|⟨b,o,cap,vs,hc1,hcap,hbl,hbm,hbh⟩
 . cases h
 have hball: ∀k u,(Gu (xh v-v/2) (-(v/2)))[k]?=some u->ro b (o+k)=some u:=by
  intro k u hu
  match k,hu with
  |0,hu=>cases hu;rw [hbm 0 (by omega),aK (hbh 0 0 _ (by omega) rfl)]
  |1,hu=>cases hu;rw [hbm 1 (by omega),aK (hbh 0 1 _ (by omega) rfl)]
  |2,hu=>cases hu;rw [hbm 2 (by omega),aK (hbh 0 2 _ (by omega) rfl)]
  |3,hu=>cases hu;rw [hbm 3 (by omega),aK (hbh 0 3 _ (by omega) rfl)]
  |4,hu=>cases hu;rw [hbm 4 (by omega),aK (hbh 0 4 _ (by omega) rfl)]
  |5,hu=>cases hu;rw [hbm 5 (by omega),aK (hbh 0 5 _ (by omega) rfl)]
  |6,hu=>cases hu;rw [hbm 6 (by omega),aK (hbh 0 6 _ (by omega) rfl)]
  |k+7,hu=>simp [Gu]at hu
 have hne:bT≠b:=by
  rintro rfl;have:=hl.apart (o+0);rw [hball 0 _ rfl]at this;cases this
 have P8: ∀b' o' u,ro b' o'=some u->w.heap.size<=b'/\b'≠bT:=by
  intro b' o' u h;refine⟨?_,?_⟩
  . by_cases q:b'<w.heap.size
    . have:=hg.ee b' o' q;rw [h]at this;cases this
    . omega
  . rintro rfl;rw [hl.apart o']at h;cases h
 have hB:w.heap.size<=b:=(P8 b _ _ (hball 0 _ rfl)).1;have hx:xh v-v/2<0:=by omega
 have hv: -(v/2)<0:=by omega
 have g3:=hball 3 _ rfl;have g5:=hball 5 _ rfl;refine RM (cap:=cap) hN (aK r5) p8 ?_ (fun k u h=>hg.cJ _ _ _ (hball k u h)) (fun tmps' hN' ht=>hk _ _ ?_)
 . exact(by simp [World.cell?,hheap]:W.cell? ⟨bT,1,none⟩=cs[1]?).trans (by rw [<-hc1,Jf,Xr (by omega)];rfl)
 . refine GG (cells:=ceB v (900/v+1) (decide (m<=v))) (bT:=bT) (ro:=kL ro b o (-1000) v) hlh (H3 hg.below hB _ _) hl.low (fun b' o' u h=> ?_) ((poked_at hne _ _).trans hheap) hN' ?_ hsz ?_
   . refine⟨JM hg.cJ hball b' o' u h,?_⟩;unfold kL at h;split at h
     . rename_i q;obtain⟨rfl,_⟩:=q;exact⟨hB,hne.symm⟩
     . split at h
       . rename_i q;obtain⟨rfl,_⟩:=q;exact⟨hB,hne.symm⟩
       . exact P8 b' o' u h
   . unfold tmB;refine ti (ti (ti (ti (W8 fun _=> .any _ _) ?_) ?_) ?_) ?_
     . rw [ht 5 (by omega),aK r5];exact .int _ _ _
     . rw [ht 6 (by omega),aK r6];exact .int _ _ _
     . rw [ht 7 (by omega)];exact tab_keep hm0 hx hv g3 g5 r7
     . rw [ht 8 (by omega),p8];exact .ptr _ 0 0 _ rfl
   . intro k x hk
     match k,hk with
     |0,hk=>cases hk;rw [c0];exact .int _ _ _
     |1,hk=>
      cases hk;rw [hc1];refine .aI _ _ _ _ b o cap (fun k=>(Gu (-1000) v).getD k undef) hcap (fun i hi=>rfl) (fun k hk=> ?_) (fun i j y hi hy=> ?_)
      . have hk:k<7:=by omega
        unfold kL;split
        . rename_i q;obtain rfl:k=3:=by omega
          rfl
        . split
          . rename_i q;obtain rfl:k=5:=by omega
            rfl
          . rename_i q3 q5
            match k,hk with
            |0,_=>exact hball 0 _ rfl
            |1,_=>exact hball 1 _ rfl
            |2,_=>exact hball 2 _ rfl
            |3,_=>exact absurd ⟨rfl,rfl⟩ q3
            |4,_=>exact hball 4 _ rfl
            |5,_=>exact absurd ⟨rfl,rfl⟩ q5
            |6,_=>exact hball 6 _ rfl
            |k+7,h=>omega
      . obtain rfl:i=0:=by omega
        rw [Yy,Jg]
        match j,hy with
        |0,hy|1,hy|2,hy|3,hy|4,hy|5,hy|6,hy=>cases hy;exact .int _ _ _
        |j+7,hy=>simp at hy
     |2,hk=>cases hk;rw [c2];exact .emp _ _
     |3,hk=>cases hk;rw [c3];exact .emp _ _
     |4,hk=>
      cases hk;rcases dE c4 with⟨h,_⟩|⟨b4,o4,cap4,vs4,hc4,q1,q2,q3,q4⟩
      . cases h
      rw [hc4];have hv4:=jJ (q4 0 0 _ (by omega) rfl);refine .aI _ _ _ _ b4 o4 cap4 vs4 q1 q2 (fun k hk=> ?_) (fun i j y hi hy=> ?_)
      . obtain rfl:k=0:=by omega
        refine XQ hx hv g3 g5 (q3 0 (by omega)) fun n hn=> ?_
        rw [hv4]at hn;cases hn
      . match j,hy with
        |0,hy=>
         obtain rfl:i=0:=by omega
         cases hy;rw [hv4];exact .bool _ _
        |j+1,hy=>simp at hy
     |5,hk=>cases hk;rw [c5];exact .int _ _ _
     |k+6,hk=>simp [ceB]at hk
end
end Go.Proofs.Big
namespace Go.Proofs.Big
open Go Go.Sx Go.Proofs Go.RowKit Go.Proofs.Top
attribute [local go_sem] Oper.semAt_some
theorem place_any (x n:Int) {w:World} (hn:1<=n) (hn2:n<=2000):
 Calls Tryz.prog 13 #[.int .i64 x, .int .i64 n] w fun e w'=> ∃y,e= .returned (.int .i64 y)/\0<=y/\y<n/\w'=w:=by
 have m1:x.tmod n<n:=Int.tmod_lt_of_pos x (by omega);have m2: -n<x.tmod n:=Int.lt_tmod_of_pos x (by omega)
 go_enter Tryz.func13,Tryz.ntmps13
 go_wp2
 all_goals
  go_ret
  exact⟨_,rfl,by omega,by omega,rfl⟩
theorem make1 (w:World):(Instr.makeSlice 40 (.int .i64 1) (.int .i64 1)).run Tryz.prog w= .ok (.slice (some ⟨w.heap.size,0,none⟩) 1 1) (w.alloc (.cells #[.bool false] 4)):=by
 have e4:(Tryz.prog.info? 4).isSome=true:=by kernel_rfl
 obtain⟨i,hi⟩:=Qi.1 e4;have e1:(Tryz.prog.info? 4).map (fun i=>i.zero)=some (some (.bool false)):=by kernel_rfl
 have e2:(Tryz.prog.info? 4).map (fun i=>i.size)=some 1:=by kernel_rfl
 have e3:(Tryz.prog.info? 4).map (fun i=>i.bytes)=some 1:=by kernel_rfl
 rw [hi]at e1 e2 e3;simp only [K4,J3]at e1 e2 e3;have h:=run_make (P:=Tryz.prog) (w:=w) 40 4 i (.bool false) (by kernel_rfl) hi e1 .i64 .i64 1 1 (by omega) (by omega) (by rw [e3];decide) (by omega);have em:madeCells (Value.bool false).cells (Int.toNat 1*1)= #[.bool false]:=by kernel_rfl
 rw [e2,em]at h;exact h
attribute [local go_sem] make1
section
variable [bW]
theorem loop_wp {v m:Int} (h1:60<=v) (h2:v<=559) (h3:0<=m) (h4:m<=599) {w:World} {Q':Exit->Act->World->Prop} {K:Act->World->Prop} (hk: ∀a w',Code.wp Tryz.prog Eo Q' a w'->K a w')
 (hret: ∀(s:bg) a w',uU s->dL (E6 w) s.get w' a->Q' .ret a w') {a:Act} {W:World} (hs:dL (E6 w) (stA0 v m).get W a):Code.wp Tryz.prog G3 (Exit.inBlock 0 (Exit.then K Q')) a W:=by
 have hv:=vc6a_ok h1 h2 h3 h4;unfold vc6a at hv;rw [bg.force_eq]at hv;have hT: ∀f c,XL6.C f=some c->nh XL6.P f c:=HP (P:=Tryz.prog) (l:=TL) k12;have hK: ∀(o:Go.Sx.Own) (r:RO),(E6 w).K o r:=fun _ _=>trivial
 refine pU (E:=E6 w) hK (X:=XL6) rfl hT hm G3 _ _ _ _ _ hv (Exit.inBlock 0 (Exit.then K Q')) (fun _ h=>h.elim) (fun i s h a w' hs=> ?_) (fun s h a w' hs=>hret s a w' h hs) a W hs;unfold endA at h;split at h
 case h_2=>exact h.elim
 rename_i hi;have hi:=Jd hi;subst hi;refine hk a w' ?_;rw [restA_is];refine wp_seq ?_;refine pU (E:=E6 w) hK (X:=XL6) rfl hT hm midA _ _ _ _ _ h (Exit.then (Code.wp Tryz.prog (.seq Ec GB) Q') Q') (fun s h19 a w' hs=> ?_) (fun _ _ h=>h.elim) (fun s h a w' hs=>hret s a w' h hs) a w' hs;show Code.wp Tryz.prog (.seq Ec GB) Q' a w'
 refine wp_seq ?_;refine poke_ok h1 h3 h19 hs fun a w' hs=> ?_
 have hp:ue (900/v+1) v m (decide (m<=v)):=by
  obtain⟨n1,n2⟩:=IS h1 h2;unfold ue;exact⟨by omega,by omega,h1,h2,h3,h4,rfl⟩
 have hv:=vc6b_ok hp;unfold vc6b at hv;rw [bg.force_eq]at hv;exact pU (E:=E6 w) hK (X:=XL6) rfl hT hm GB _ _ _ _ _ hv Q' (fun _ h=>h.elim) (fun _ _ h=>h.elim) (fun s h a w' hs=>hret s a w' h hs) a w' hs
theorem M3 {P:Program} {fn:Func} {E:Env} {s:bg} {w:World} {a:Act} (hf:fn.results= #[.tmp 4]) (h:uU s) (hs:dL E s.get w a):bodyPost P fn (fun e w'=>e= .returned (.bool true)/\Below E.B E.w0 w') .ret a w:=by
 obtain⟨ro,own,hg⟩:=hs;refine bodyPost_ret (results_tmp hf _ _ _) hg.defs ⟨?_,hg.below⟩;unfold uU Ao at h;split at h
 . rename_i x hx;have hr:=hg.tm 4 x hx;split at h
   . rw [nX hr]
   . subst h;rw [jJ hr]
   . exact h.elim
 . rename_i x hx;cases hx
 . exact h.elim
end
theorem cell_of {W:World} {b:Nat} {vs:Array Value} {ty:TypeId} {fr:Nat×Nat} (h:W.heap[b]?=some (.cells vs ty fr)) (k:Nat):W.cell? ⟨b,k,none⟩=vs[k]?:=by
 simp [World.cell?,h]
theorem AS {W:World} {b:Nat} {vs:Array Value} {ty:TypeId} (h:W.heap[b]?=some (.cells vs ty (0,0))) (k:Nat):W.frozen? ⟨b,k,none⟩=false:=by
 simp [World.frozen?,h]
def KS (s:Nat) (W:World):RO:=fun b o=>if s<=b/\b<s+4 then W.cell? ⟨b,o,none⟩else none
theorem Rh {s:Nat} {W:World} {b o:Nat} {v:Value} (h:KS s W b o=some v):W.cell? ⟨b,o,none⟩=some v/\s<=b/\b<s+4:=by
 unfold KS at h;split at h
 . exact⟨h,by omega,by omega⟩
 . cases h
theorem xa {s j:Nat} {W:World} (hj:j<4) (o:Nat):KS s W (s+j) o=W.cell? ⟨s+j,o,none⟩:=by
 unfold KS;rw [if_pos (by omega)]
theorem roAt_0 {s:Nat} {W:World} (o:Nat):KS s W s o=W.cell? ⟨s,o,none⟩:=by
 unfold KS;rw [if_pos (by omega)]
abbrev al5 (w:World) (o0 o1 o2 o3 o4:Obj):World:=((((w.alloc o0).alloc o1).alloc o2).alloc o3).alloc o4
theorem al5_at (w:World) (o0 o1 o2 o3 o4:Obj):(al5 w o0 o1 o2 o3 o4).heap[w.heap.size+0]?=some o0/\(al5 w o0 o1 o2 o3 o4).heap[w.heap.size+1]?=some o1/\(al5 w o0 o1 o2 o3 o4).heap[w.heap.size+2]?=some o2/\(al5 w o0 o1 o2 o3 o4).heap[w.heap.size+3]?=some o3/\
 (al5 w o0 o1 o2 o3 o4).heap[w.heap.size+4]?=some o4:=by
 have hs: ∀(w:World) o,(w.alloc o).heap.size=w.heap.size+1:=fun w o=>by simp
 have hn: ∀(w:World) o k,k=w.heap.size->(w.alloc o).heap[k]?=some o:=fun w o k hk=>by subst hk;exact World.alloc_heap_new w o
 refine⟨?_,?_,?_,?_,?_⟩<;>(repeat (first|exact hn _ _ _ (by first|rfl|(simp only [hs];done)|(simp only [hs];omega))|rw [Below.heap_alloc _ _ _ (by simp only [hs];omega)]))
theorem RW {B:Nat} {u w:World} (h:Below B u w) (hB:B<=w.heap.size) (o0 o1 o2 o3 o4:Obj):Below B u (al5 w o0 o1 o2 o3 o4):=by
 have hs: ∀(w:World) o,(w.alloc o).heap.size=w.heap.size+1:=fun w o=>by simp
 exact((((h.alloc hB _).alloc (by simp only [hs];omega) _).alloc (by simp only [hs];omega) _).alloc (by simp only [hs];omega) _).alloc (by simp only [hs];omega) _
def NC (m:Int):Array Value:= #[.string ⟨#[119]⟩,vJ 3,vJ 0,vJ 0,vJ (-400),vJ 0,vJ 400,vJ 8,vJ 0,vJ 0,vJ m,vJ 3,vJ 9]
section
variable [bW]
theorem loop_at {v m:Int} (h1:60<=v) (h2:v<=559) (h3:0<=m) (h4:m<=599) {w w5:World} (hB:Below w.heap.size w w5) {fn:Func} (hf:fn.results= #[.tmp 4]) {K:Act->World->Prop}
 (hk: ∀a w',Code.wp Tryz.prog Eo (bodyPost Tryz.prog fn fun e w'=>e= .returned (.bool true)/\Below w.heap.size w w') a w'->K a w') {tmps:Array Value} (hN:tmps.size=213)
 (t5:tmps.getD 5 undef=vJ v) (t6:tmps.getD 6 undef=vJ m) (t7:tmps.getD 7 undef= .pointer (some ⟨w5.heap.size+1,0,none⟩)) (t8:tmps.getD 8 undef= .pointer (some ⟨w5.heap.size+4,0,none⟩)) (t9:tmps.getD 9 undef= .bool false) (t10:tmps.getD 10 undef=vJ 0):
 Code.wp Tryz.prog G3 (Exit.inBlock 0 (Exit.then K (bodyPost Tryz.prog fn fun e w'=>e= .returned (.bool true)/\Below w.heap.size w w'))) ⟨tmps,[]⟩
  (al5 w5 (.cells (NC m) 60) (.cells #[vJ 100,vJ 1,vJ 0,vJ 0,vJ 0,vJ 0,vJ 0,dj, .slice (some ⟨w5.heap.size,0,none⟩) 1 1,dj,dj,dj,dj,dj,dj,dj,dj,dj] 37)
   (.cells #[vJ 1,vJ 0,vJ 0,vJ (-1000),vJ 0,vJ v,vJ 0] 49) (.cells #[.bool false] 4) (.cells #[vJ 0, .slice (some ⟨w5.heap.size+2,0,none⟩) 1 1,dj,dj, .slice (some ⟨w5.heap.size+3,0,none⟩) 1 1, .int .u32 0] 43)):=by
 obtain⟨q0,q1,q2,q3,q4⟩:=al5_at w5 (.cells (NC m) 60) (.cells #[vJ 100,vJ 1,vJ 0,vJ 0,vJ 0,vJ 0,vJ 0,dj, .slice (some ⟨w5.heap.size,0,none⟩) 1 1,dj,dj,dj,dj,dj,dj,dj,dj,dj] 37)
  (.cells #[vJ 1,vJ 0,vJ 0,vJ (-1000),vJ 0,vJ v,vJ 0] 49) (.cells #[.bool false] 4) (.cells #[vJ 0, .slice (some ⟨w5.heap.size+2,0,none⟩) 1 1,dj,dj, .slice (some ⟨w5.heap.size+3,0,none⟩) 1 1, .int .u32 0] 43)
 have hBW:=RW hB hB.size (.cells (NC m) 60) (.cells #[vJ 100,vJ 1,vJ 0,vJ 0,vJ 0,vJ 0,vJ 0,dj, .slice (some ⟨w5.heap.size,0,none⟩) 1 1,dj,dj,dj,dj,dj,dj,dj,dj,dj] 37)
  (.cells #[vJ 1,vJ 0,vJ 0,vJ (-1000),vJ 0,vJ v,vJ 0] 49) (.cells #[.bool false] 4) (.cells #[vJ 0, .slice (some ⟨w5.heap.size+2,0,none⟩) 1 1,dj,dj, .slice (some ⟨w5.heap.size+3,0,none⟩) 1 1, .int .u32 0] 43)
 revert q0 q1 q2 q3 q4 hBW;generalize al5 w5 _ _ _ _ _=W;intro q0 q1 q2 q3 q4 hBW;have hs:=hB.size;refine loop_wp h1 h2 h3 h4 (w:=w) hk (fun s a w' h hs=>M3 (E:=E6 w) hf h hs) ?_;refine RX (cells:=ceA v) (bT:=w5.heap.size+4) (ro:=KS w5.heap.size W) hBW (by omega) (fun b o u h=> ?_) q4 hN ?_ rfl ?_
 . obtain⟨g1,g2,g3⟩:=Rh h;refine⟨⟨g1,?_⟩,by omega,by omega⟩;rcases(by omega:b=w5.heap.size+0\/b=w5.heap.size+1\/b=w5.heap.size+2\/b=w5.heap.size+3)with rfl|rfl|rfl|rfl
   . exact AS q0 o
   . exact AS q1 o
   . exact AS q2 o
   . exact AS q3 o
 . unfold tmA;refine ti (ti (ti (ti (ti (ti (W8 fun _=> .any _ _) ?_) ?_) ?_) ?_) ?_) ?_
   . rw [t5];exact .int _ _ _
   . rw [t6];exact .int _ _ _
   . rw [t7];refine Ii (svs:=FF m) (vals:=[vJ 100,vJ 1,vJ 0,vJ 0,vJ 0,vJ 0,vJ 0,dj, .slice (some ⟨w5.heap.size,0,none⟩) 1 1,dj,dj,dj,dj,dj,dj,dj,dj,dj]) (fun k _=>by rw [xa (by omega),cell_of q1];simp) ?_;refine⟨.int _ _ _, .int _ _ _, .int _ _ _, .int _ _ _, .int _ _ _, .int _ _ _, .int _ _ _, .aq _,?_, .aq _, .aq _, .aq _, .aq _, .aq _, .aq _, .aq _, .aq _, .aq _,trivial⟩;exact I0 (svs:=mw m) (vals:=(NC m).toList) (by omega) (fun k _=>by rw [roAt_0,cell_of (show W.heap[w5.heap.size]?=_ from q0)];simp) ⟨.str _ _, .int _ _ _, .int _ _ _, .int _ _ _, .int _ _ _, .int _ _ _, .int _ _ _, .int _ _ _, .int _ _ _, .int _ _ _, .int _ _ _, .int _ _ _, .int _ _ _,trivial⟩
   . rw [t8];exact .ptr _ 0 0 _ rfl
   . rw [t9];exact .ff _
   . rw [t10];exact .int _ _ _
 . intro k sv hk
   match k,hk with
   |0,hk=>cases hk;exact .int _ _ _
   |1,hk=>
    cases hk;exact I0 (svs:=[I 1,I 0,I 0,I (-1000),I 0,I v,I 0]) (vals:=[vJ 1,vJ 0,vJ 0,vJ (-1000),vJ 0,vJ v,vJ 0]) (by omega) (fun k _=>by rw [xa (by omega),cell_of q2];simp) ⟨.int _ _ _, .int _ _ _, .int _ _ _, .int _ _ _, .int _ _ _, .int _ _ _, .int _ _ _,trivial⟩
   |2,hk=>cases hk;exact .aq _
   |3,hk=>cases hk;exact .aq _
   |4,hk=>cases hk;exact I0 (svs:=[.ff]) (vals:=[.bool false]) (by omega) (fun k _=>by rw [xa (by omega),cell_of q3];simp) ⟨.ff _,trivial⟩
   |5,hk=>cases hk;exact .int _ _ _
   |k+6,hk=>simp [ceA]at hk
set_option maxHeartbeats 4000000 in
theorem Dr (x y:Int) {w:World} (hplay: ∀w,Calls Tryz.prog 7 #[] w fun e w'=>e= .returned (.bool true)/\Below w.heap.size w w'):
 Calls Tryz.prog 6 #[.int .i64 x, .int .i64 y] w fun e w'=>e= .returned (.bool true)/\Below w.heap.size w w':=by
 go_enter Tryz.func6,Tryz.ntmps6
 go_wp2_with first
  |(go_at_call 7;refine(hplay _).mono ?_;rintro e w0 ⟨rfl,hB0⟩)
  |(go_at_call 13;refine(place_any _ _ (by omega) (by omega)).mono ?_;rintro e w1 ⟨n,rfl,hn0,hn1,rfl⟩)
 rename_i K hK;refine Sk (c':=G3) (by kernel_rfl) ?_;exact loop_at (by omega) (by omega) (by omega) (by omega) hB0 rfl (fun a w' h=>hK a w' (Sk (by kernel_rfl) h)) rfl rfl rfl rfl rfl rfl rfl
end
end Go.Proofs.Big
