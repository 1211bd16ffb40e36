import Derived.Test.YtpjiopgakifhaaaGreatRA
import Derived.Test.YtpjiopgakifhaaaGreatRW0
import Derived.Test.YtpjiopgakifhaaaGreatRW1
import Derived.Test.YtpjiopgakifhaaaGreatRW2
import Derived.Test.YtpjiopgakifhaaaGreatRW3
import Derived.Test.YtpjiopgakifhaaaGreatRJ
import Derived.Test.YtpjiopgakifhaaaGreatRY3
set_option linter.unusedSectionVars false
set_option linter.unusedSimpArgs false
set_option linter.unusedVariables false
set_option maxRecDepth 100000
namespace Go.Proofs.Pl
open Go Go.Sx Go.Proofs Go.RowKit Go.Proofs.Top Go.Proofs.Big Tryz
variable [bW]
theorem g0:Fact prog 44 e0.2.1 e0.2.2:=au okW Top.hm (by kernel_rfl) n0
theorem g1:Fact prog 60 e1.2.1 e1.2.2:=au okW Top.hm (by kernel_rfl) n1
theorem g2:Fact prog 60 e2.2.1 e2.2.2:=au okW Top.hm (by kernel_rfl) n2
theorem g3:Fact prog 141 e3.2.1 e3.2.2:=au (okW.more (.cons g2<|.cons g0<|.nil)) Top.hm (by kernel_rfl) n3
theorem g4:Fact prog 31 e4.2.1 e4.2.2:=au (okW.more (.cons g3<|.cons g2<|.cons g0<|.nil)) Top.hm (by kernel_rfl) n4
theorem g5:Fact prog 17 e5.2.1 e5.2.2:=au (okW.more (.cons g4<|.cons g1<|.cons g0<|.nil)) Top.hm (by kernel_rfl) n5
theorem g6:Fact prog 60 e6.2.1 e6.2.2:=au okW Top.hm (by kernel_rfl) n6
theorem g7:Fact prog 141 e7.2.1 e7.2.2:=au (okW.more (.cons g6<|.cons g0<|.nil)) Top.hm (by kernel_rfl) n7
theorem g8:Fact prog 31 e8.2.1 e8.2.2:=au (okW.more (.cons g7<|.cons g6<|.cons g0<|.nil)) Top.hm (by kernel_rfl) n8
theorem g9:Fact prog 17 e9.2.1 e9.2.2:=au (okW.more (.cons g8<|.cons g6<|.cons g0<|.nil)) Top.hm (by kernel_rfl) n9
theorem g10:Fact prog 60 Ws.2.1 Ws.2.2:=au okW Top.hm (by kernel_rfl) n10
theorem g11:Fact prog 141 e11.2.1 e11.2.2:=au (okW.more (.cons g10<|.cons g0<|.nil)) Top.hm (by kernel_rfl) n11
theorem g12:Fact prog 31 WX.2.1 WX.2.2:=au (okW.more (.cons g11<|.cons g10<|.cons g0<|.nil)) Top.hm (by kernel_rfl) n12
theorem g13:Fact prog 17 e13.2.1 e13.2.2:=au (okW.more (.cons g12<|.cons g10<|.cons g0<|.nil)) Top.hm (by kernel_rfl) n13
theorem g14:Fact prog 60 U8.2.1 U8.2.2:=au okW Top.hm (by kernel_rfl) n14
theorem g15:Fact prog 141 YQ.2.1 YQ.2.2:=au (okW.more (.cons g14<|.cons g0<|.nil)) Top.hm (by kernel_rfl) n15
theorem g16:Fact prog 31 e16.2.1 e16.2.2:=au (okW.more (.cons g15<|.cons g14<|.cons g0<|.nil)) Top.hm (by kernel_rfl) n16
theorem g17:Fact prog 17 e17.2.1 e17.2.2:=au (okW.more (.cons g16<|.cons g14<|.cons g0<|.nil)) Top.hm (by kernel_rfl) n17
theorem g18:Fact prog 60 TH.2.1 TH.2.2:=au okW Top.hm (by kernel_rfl) n18
theorem g19:Fact prog 350 e19.2.1 e19.2.2:=au okW Top.hm (by kernel_rfl) n19
theorem g20:Fact prog 350 e20.2.1 e20.2.2:=au okW Top.hm (by kernel_rfl) n20
theorem g21:Fact prog 309 S6.2.1 S6.2.2:=au okW Top.hm (by kernel_rfl) n21
theorem g22:Fact prog 309 e22.2.1 e22.2.2:=au okW Top.hm (by kernel_rfl) n22
theorem g23:Fact prog 261 YR.2.1 YR.2.2:=au (okW.more (.cons g22<|.cons g21<|.nil)) Top.hm (by kernel_rfl) n23
theorem g24:Fact prog 309 e24.2.1 e24.2.2:=au okW Top.hm (by kernel_rfl) n24
theorem g25:Fact prog 260 e25.2.1 e25.2.2:=au okW Top.hm (by kernel_rfl) n25
theorem g26:Fact prog 388 ZF.2.1 ZF.2.2:=au (okW.more (.cons g25<|.cons g24<|.cons g21<|.cons g23<|.nil)) Top.hm (by kernel_rfl) n26
theorem g27:Fact prog 227 XY.2.1 XY.2.2:=au (okW.more (.cons g26<|.cons g20<|.cons g19<|.nil)) Top.hm (by kernel_rfl) n27
theorem g28:Fact prog 261 e28.2.1 e28.2.2:=au (okW.more (.cons g22<|.cons g21<|.nil)) Top.hm (by kernel_rfl) n28
theorem g29:Fact prog 209 e29.2.1 e29.2.2:=au (okW.more (.cons g24<|.cons g21<|.cons g28<|.nil)) Top.hm (by kernel_rfl) n29
theorem g30:Fact prog 216 Yu.2.1 Yu.2.2:=au okW Top.hm (by kernel_rfl) n30
theorem g31:Fact prog 276 Zj.2.1 Zj.2.2:=au okW Top.hm (by kernel_rfl) n31
theorem g32:Fact prog 74 e32.2.1 e32.2.2:=au (okW.more (.cons g31<|.cons g30<|.cons g28<|.cons g29<|.cons g27<|.cons g18<|.cons g0<|.nil)) Top.hm (by kernel_rfl) n32
theorem g33:Fact prog 141 Yn.2.1 Yn.2.2:=au (okW.more (.cons g18<|.cons g0<|.nil)) Top.hm (by kernel_rfl) n33
theorem g34:Fact prog 31 ZW.2.1 ZW.2.2:=au (okW.more (.cons g33<|.cons g32<|.cons g18<|.cons g0<|.nil)) Top.hm (by kernel_rfl) n34
theorem g35:Fact prog 17 ZS.2.1 ZS.2.2:=au (okW.more (.cons g34<|.cons g18<|.cons g0<|.nil)) Top.hm (by kernel_rfl) n35
theorem g36:Fact prog 60 Vw.2.1 Vw.2.2:=au okW Top.hm (by kernel_rfl) n36
theorem g37:Fact prog 141 YD.2.1 YD.2.2:=au (okW.more (.cons g36<|.cons g0<|.nil)) Top.hm (by kernel_rfl) n37
theorem g38:Fact prog 31 YU.2.1 YU.2.2:=au (okW.more (.cons g37<|.cons g36<|.cons g0<|.nil)) Top.hm (by kernel_rfl) n38
theorem g39:Fact prog 17 Zt.2.1 Zt.2.2:=au (okW.more (.cons g38<|.cons g36<|.cons g0<|.nil)) Top.hm (by kernel_rfl) n39
theorem g40:Fact prog 60 UI.2.1 UI.2.2:=au okW Top.hm (by kernel_rfl) n40
theorem g41:Fact prog 141 Xx.2.1 Xx.2.2:=au (okW.more (.cons g40<|.cons g0<|.nil)) Top.hm (by kernel_rfl) n41
theorem g42:Fact prog 31 e42.2.1 e42.2.2:=au (okW.more (.cons g41<|.cons g40<|.cons g0<|.nil)) Top.hm (by kernel_rfl) n42
theorem g43:Fact prog 17 e43.2.1 e43.2.2:=au (okW.more (.cons g42<|.cons g40<|.cons g0<|.nil)) Top.hm (by kernel_rfl) n43
theorem g44:Fact prog 60 Wc.2.1 Wc.2.2:=au okW Top.hm (by kernel_rfl) n44
theorem g45:Fact prog 141 YA.2.1 YA.2.2:=au (okW.more (.cons g44<|.cons g0<|.nil)) Top.hm (by kernel_rfl) n45
theorem g46:Fact prog 31 YL.2.1 YL.2.2:=au (okW.more (.cons g45<|.cons g44<|.cons g0<|.nil)) Top.hm (by kernel_rfl) n46
theorem g47:Fact prog 17 e47.2.1 e47.2.2:=au (okW.more (.cons g46<|.cons g44<|.cons g0<|.nil)) Top.hm (by kernel_rfl) n47
theorem VX:Fact prog 7 [] .tt:=au (okW.more (.cons g47<|.cons g43<|.cons g39<|.cons g35<|.cons g17<|.cons g13<|.cons g9<|.cons g5<|.cons g0<|.nil)) Top.hm (by kernel_rfl) m7
end Go.Proofs.Pl
namespace Go.Proofs.Big
open Go Go.Sx Go.Proofs Go.RowKit Go.Proofs.Top Tryz
variable [bW]
set_option maxHeartbeats 4000000
def o0:lA:=([],0,[],0)
def h0:H5:=(0,0,0,0,0)
def plc(x n:Int):Int:=if x.tmod n<0 then x.tmod n+n else x.tmod n
def pre13(x n:Int):Prop:=fN x/\1<=n/\n<=2000
def pre4(x y z:Int):Prop:=fN x/\fN y/\fN z
attribute [irreducible] plc pre13 pre4
def c13:bB:=ow sII.dec (λa=>pre13 a.1 a.2) (λa=>iS (plc a.1 a.2))
def T13:List (Nat×bB):=(13,c13)::T12
def vc13(x:Int)(n:Int):Prop:=fQ T12 f13 [] [iS x,iS n] (iS (plc x n))
def c7:bB:=λargs=>(iZ [] .tt args).map λr=>(True,r)
def T7:List (Nat×bB):=(7,c7)::T13
def vc4(x:Int)(y:Int)(z:Int):Prop:=fQ T7 Tryz.f4 [] [iS x,iS y,iS z] (.bool true)
theorem vc13_eq(x:Int)(n:Int):(True/\n≠0/\ab 2 ((decide (x.tmod n<0)=true->ab 3 (W (x.tmod n+n)=plc x n/\True))/\(decide (x.tmod n<0)=false->ab 2 (x.tmod n=plc x n/\True))))=vc13 x n:=by kernel_rfl
theorem vc4_eq(x:Int)(y:Int)(z:Int):(
 let h:=True/\True
 let j:=sm (1:Int)
 let k:=λ(x:Nat)=>x<1
 let u:=true=true
 let o:=1<=1/\∀(i:Nat),k i->u
 let c:=sm (0:Int)
 let v:=λ(x:Int)=>W (1+plc x 30)
 let p:=sm 1
 let A:=[(119:UInt8)]
 let f:=λ(x:Int)=>plc x 9
 let B:=sm (-1)
 let C:=λ(x y:Int)=>sm (100:Int)/\j/\c/\c/\W ((0:Int)-v x)= - -W ((0:Int)-W ((1:Int)+plc x (30:Int)))/\c/\c/\True/\(p/\∀(i:Nat),
  k i->A.toArray.toList=A/\j/\c/\sm (-500:Int)/\c/\sm (500:Int)/\c/\sm (f y)/\c/\c/\c/\B/\B/\True)/\ab (9:Nat) True
 let q:=λ(x:Int)=>W (100+plc x 1000)
 let w:=c/\c/\True
 let D:=ab 2 ((p/\∀(i:Nat),k i->false=false/\True)/\c/\True)
 let r:=ru true
 let d:=λ(x y m:Int)=>F9 (q x) 0 (-W (0-W (1+plc y 30))) (f m) 250
 let g:=λ(x y m:Int)=>tB (q x) 0 (-W (0-W (1+plc y 30))) (f m) 250
 let E:=(0:Int)<=(0:Int)/\(0:Int)<(1:Int)
 let e:=ar.s (SV.int .i64 0)
 let F:=λ(x y m:Int)=>[e,ar.s (SV.int .i64 (g x y m))]
 let G:=λ(x y m:Int)=>iI (F x y m) [e,e]
 let H:=0==0
 let J:=ar.s (SV.int .i64 1)
 let t:=r/\True/\true=false/\True
 ab (5:Nat) ((h/\pre13 y (30:Int))/\ab (2:Nat) ((h/\pre13 z (9:Int))/\ab (3:Nat) ((h/\pre13 x (1000:Int))/\ab (2:Nat) ((j/\(0:Int)<=(1
  :Int)/\(1:Int)<=(9223372036854775807:Int)/\(1:Int)<=(281474976710656:Int))/\True/\(sm (250:Int)/\(0:Int)<=(250:Int)/\(250:Int)<=(9223372036854775807
  :Int)/\(6000:Int)<=(281474976710656:Int))/\ab (8:Nat) (o/\ab (10:Nat) (o/\ab (2:Nat) (o/\True/\((250:Nat)<=(250:Nat)/\∀i,i<
  (250:Nat)->u)/\((C y z/\(c/\(p/\∀(i:Nat),k i->j/\c/\c/\c/\sm (q x)/\w)/\D)/\(sm (250:Nat)/\∀i,i<(250:Nat)->c/\w)/\True)/\
  ue (0:Int) (q x) (0:Int) (-W ((0:Int)-W ((1:Int)+plc y (30:Int)))) (f z) false (250:Nat))/\r/\True/\(sm (3:Int)/\(0:Int)<=(3:Int)/\
  (3:Int)<=(9223372036854775807:Int)/\(72:Int)<=(281474976710656:Int))/\ab (8:Nat) (o/\ab (10:Nat) (((3:Nat)<=(3:Nat)/\∀i,i<(3
  :Nat)->u)/\((C y z/\((250:Int)=(250:Int)/\(p/\∀(i:Nat),k i->j/\c/\c/\c/\d x y z=d x y z/\c/\g x y z=g x y z/\True)/\D)/\(sm (3:Nat)
  /\∀i,i<(3:Nat)->c/\w)/\True)/\ue (250:Int) (d x y z) (g x y z) (-W ((0:Int)-W ((1:Int)+plc y (30:Int)))) (f z) true (3:Nat))/\
  r/\E/\True/\h/\(G x y z=true->(H=true->(decide (d x y z>=(100:Int))=true->(decide (d x y z<W ((100:Int)+v y))=true->E/\h/\r/\True/\iI
  [J,e,e,e,ar.s (SV.int .i64 (F9 (d x y z) (g x y z) (-W ((0:Int)-W ((1:Int)+plc y (30:Int)))) (f z) (3:Int))),e,ar.s (SV.int .i64
  (tB (d x y z) (g x y z) (-W ((0:Int)-W ((1:Int)+plc y (30:Int)))) (f z) (3:Int)))] (J::e::e::e::ar.s (SV.int .i64 (d x y z))::F x
  y z)=true/\True)/\(decide (d x y z<W ((100:Int)+v y))=false->t))/\(decide (d x y z>=(100:Int))=false->t))/\(H=false->t))/\(G x y z=false
  ->t)))))))))))=vc4 x y z:=by kernel_rfl
theorem plc_def(x n:Int):plc x n=if x.tmod n<0 then x.tmod n+n else x.tmod n:=by unfold plc;rfl
theorem plc_bd{x n:Int}(b:1<=n):0<=plc x n/\plc x n<n:=by
 have c:x.tmod n<n:=Int.tmod_lt_of_pos x (by omega);have d: -n<x.tmod n:=Int.lt_tmod_of_pos x (by omega);rw[plc_def];split<;>omega
theorem k13:aH prog T13:=av k12 hm func13 (by kernel_rfl) (by kernel_rfl) sII.ok (by kernel_rfl) (λ_=>[]) λa b=>by
 have h:vc13 a.1 a.2:=by
  rw[<-vc13_eq];simp only[aA];obtain⟨x,n⟩:=a
  try dsimp only at b
  unfold pre13 at b;obtain⟨d,e,i⟩:=b;have j:x.tmod n<n:=Int.tmod_lt_of_pos x (by omega);have k: -n<x.tmod n:=Int.lt_tmod_of_pos x (by omega);simp[-List.getD_eq_getElem?_getD];rw[plc_def];refine⟨by omega,λc=>?_,λc=>?_⟩
  . rw[JB c,aO (n:=x.tmod n+n) (by omega) (by omega)]
  . rw[JA (by omega)]
 exact h
theorem p4{x y z:Int}(d:pre4 x y z):vc4 x y z:=by
 rw[<-vc4_eq];simp only[aA];simp[-List.getD_eq_getElem?_getD];unfold pre4 at d;obtain⟨q,r,u⟩:=d;have bx:=plc_bd (x:=x) (n:=1000) (by omega);have w:=plc_bd (x:=y) (n:=30) (by omega);have D:=plc_bd (x:=z) (n:=9) (by omega);generalize plc x 1000=a at*
 generalize plc y 30=b at*
 generalize plc z 9=e at*
 rw[aO (n:=100+a) (by omega) (by omega),aO (n:=1+b) (by omega) (by omega),aO (n:= -(1+b)) (by omega) (by omega),aO (n:=100+(1+b)) (by omega) (by omega),Int.neg_neg];obtain⟨p,A,F,c⟩:=rest_all (h:=1+b) (e:=e) (y:=100+a) (by omega) (by omega) (by omega) (by omega) (by omega) (by omega);have k:Inv (1+b) e (100+a,0):=⟨by omega,by omega,by omega,by omega,by show 100<=100+a;omega,by
  show(0:Int)*0+4*(1+b)*(100+a-100)<=_
  have:=Jt (show a<=999 by omega) (show 0<=4*(1+b) by omega);rw[show 100+a-100=a by omega];omega,λd=>by exact absurd d (by show¬(0:Int)<0;omega)⟩
 have B:F9 (100+a) 0 (1+b) e 250=p:=by unfold F9;exact JM Prod.fst (c 0)
 have C:tB (100+a) 0 (1+b) e 250=0:=by unfold tB;exact JM Prod.snd (c 0)
 have e1:Inv (1+b) e (p,0):=by have:=k.itr 250;rw[c 0]at this;exact this
 have m:itr (1+b) e 3 (p,0)=(p,0):=by
  have o:=itr_add (1+b) e 250 (100+a,0) 3;rw[c 0]at o;rw[<-o];exact c 3
 have i:F9 p 0 (1+b) e 3=p:=by unfold F9;exact JM Prod.fst m
 have j:tB p 0 (1+b) e 3=0:=by unfold tB;exact JM Prod.snd m
 rw[B,C,i,j];have E:∀n:Int,(decide (n=n))=true:=λn=>JJ rfl
 unfold pre13 ue;refine⟨⟨r,by omega,by omega⟩,⟨u,by omega,by omega⟩,⟨q,by omega,by omega⟩,⟨by omega,by omega,by omega,by omega,k,λ_=>⟨rfl,rfl⟩⟩,⟨by omega,by omega,by omega,by omega,e1,λh=>by cases h⟩,λ_=>⟨λ_=>⟨λ_=>?_,by omega⟩,A⟩,?_⟩
 . simp[iI,ot]
 . rfl
theorem pre4_of{x y z:Int}(b:(Lit.int .i64 x).wf=true)(c:(Lit.int .i64 y).wf=true)(d:(Lit.int .i64 z).wf=true):pre4 x y z:=by
 have f:∀{n:Int},(Lit.int .i64 n).wf=true->fN n:=λ{n} h=>by
  simp[Lit.wf,IntKind.min,IntKind.max,IntKind.signed,IntKind.bits]at h;unfold fN;omega
 unfold pre4;exact⟨f b,f c,f d⟩
theorem k7(b:nh prog 7 c7):aH prog T7:=⟨b,k13⟩
theorem rests_calls{x y z:Int}(c:pre4 x y z)(d:nh prog 7 c7)(w:World):Calls prog 4 #[.int .i64 x,.int .i64 y,.int .i64 z] w λe b=>e=.returned (.bool true)/\Below w.heap.size w b:=by
 have h:=p4 c;unfold vc4 fQ H9 at h;rw[bg.force_eq]at h;refine(Rk (R:=λ_ _=>none) (args:=[iS x,iS y,iS z]) (r:=.bool true) func4 (show Tryz.f4.body=some (mB Tryz.f4) by kernel_rfl) (Qk (by kernel_rfl)) (λE i j Q k m o a w p=>pU (E:=E) j (X:=⟨prog,Tryz.f4.ntmps,WQ T7⟩) i (HP (k7 d)) hm _ _ _ _ _ _ h Q k m o a w p) w #[.int .i64 x,.int .i64 y,.int .i64 z] (λ_ _ _ h=>by cases h) ⟨.int _ _ _,.int _ _ _,.int _ _ _,trivial⟩).mono ?_
 rintro e b ⟨v,B,rfl,q,_,_,_,u⟩;have A:=q.plain rfl;cases A;exact⟨rfl,u⟩
end Go.Proofs.Big
