import Derived.Test.YtpjiopgakifhaaaGreatRA
import Derived.Test.YtpjiopgakifhaaaGreatRJ
import Derived.Test.YtpjiopgakifhaaaGreatRK
set_option linter.unusedSectionVars false
set_option linter.unusedSimpArgs false
set_option linter.unusedVariables false
set_option maxRecDepth 100000
namespace Go.Proofs.Big
open Go Go.Sx Go.Proofs Tryz
variable [bW]
attribute [local irreducible] lm nv tl dg dz
def T0:=iR.cons Rx sI
def mU(l:Ω):Prop:=canon l/\l.length<=1000000
def di(n:Int):Prop:=0<=n/\n<=32000000
def rD(a b:Ω)(i:Int)(c:Ω):Prop:=0<=i/\i<=a.length/\c=dg (i.toNat+b.length) (nv (a.take i.toNat)*nv b)++List.replicate (a.length-i.toNat) 0
def zM(a b:Ω)(i k:Nat):Int:=nv (a.take i)*nv b+pw i*(a.getD i 0*nv (b.take k))
def rT(a b:Ω)(i k c:Int)(d:Ω):Prop:=0<=i/\i<a.length/\0<=k/\k<=b.length/\
 d=dg (i.toNat+k.toNat) (zM a b i.toNat k.toNat)++(dg (b.length-k.toNat) (nv (a.take i.toNat)*nv b/pw (i.toNat+k.toNat))++List.replicate (a.length-i.toNat) 0)/\
 c=zM a b i.toNat k.toNat/pw (i.toNat+k.toNat)-nv (a.take i.toNat)*nv b/pw (i.toNat+k.toNat)
def na(l:Ω)(w r:Nat)(i:Int)(b:Ω):Prop:=0<=i/\i<=l.length/\b=List.replicate w 0++(dg (i.toNat+1) (nv (l.take i.toNat)*2^r)++List.replicate (l.length-i.toNat) 0)
attribute [irreducible] mU di rD zM rT na
def c360:bB:=ow Ta.dec (λa=>mU a.2.1/\mU a.2.2.2) (λa=>zS (zv a.1 a.2.1+zv a.2.2.1 a.2.2.2))
def UP:List (Nat×bB):=(360,c360)::VM
def SP(b:Bool)(l:Ω)(c:Bool)(m:Ω):Prop:=fQ VM f360 [] [.bool b,lS l,.bool c,lS m] (zS (zv b l+zv c m))
def c304:bB:=ow DK.dec (λa=>fit a.1/\fit a.2) (λa=>zS (a.1+a.2))
def UT:List (Nat×bB):=(304,c304)::UP
def TG(x:Int)(y:Int):Prop:=fQ UP f304 [] [zS x,zS y] (zS (x+y))
def c364:bB:=ow DK.dec (λa=>fit a.1/\fit a.2) (λa=>zS (a.1-a.2))
def Vp:List (Nat×bB):=(364,c364)::UT
def Ts(x:Int)(y:Int):Prop:=fQ UT f364 [] [zS x,zS y] (zS (x-y))
def c302:bB:=ow DK.dec (λa=>fit a.1/\fit a.2) (λa=>iS (aW (a.1-a.2)))
def UH:List (Nat×bB):=(302,c302)::Vp
def Tc(x:Int)(y:Int):Prop:=fQ Vp f302 [] [zS x,zS y] (iS (aW (x-y)))
def c305:bB:=ow DK.dec (λa=>fit a.1/\fit a.2) (λa=>zS (a.1*a.2))
def W4:List (Nat×bB):=(305,c305)::UH
def ZY(x:Int)(y:Int):List kM:=[⟨.unit,.list [.int .i64 (.tm 43),.iQ i32 ((dz x).length+(dz y).length) 3 0],λ_ (s:Int×Ω)=>rD (dz x) (dz y) s.1 s.2,λ_ (s:Int×Ω)=>((dz x).length-s.1).toNat⟩,⟨.int .i64 (.tm 43),.list [.int .i64 (.tm 50),.int .u64 (.tm 12),.iQ i32 ((dz x).length+(dz y).length) 3 0],λ(i:Int)(s:Int×Int×Ω)=>rT (dz x) (dz y) i s.1 s.2.1 s.2.2,λ(i:Int)(s:Int×Int×Ω)=>((dz y).length-s.1).toNat⟩]
def TD(x:Int)(y:Int):Prop:=fQ UH f305 (ZY x y) [zS x,zS y] (zS (x*y))
def c303:bB:=ow T0.dec (λa=>fit a.1/\di a.2) (λa=>zS (a.1*2^a.2.toNat))
def WV:List (Nat×bB):=(303,c303)::W4
def aaf(z:Int)(n:Int):List kM:=[⟨.unit,.list [.int .i64 (.tm 35),.iQ i32 ((dz z).length+n.toNat/32+1) 2 0],λ_ (s:Int×Ω)=>na (dz z) (n.toNat/32) (n.toNat%32) s.1 s.2,λ_ (s:Int×Ω)=>((dz z).length-s.1).toNat⟩]
def Tu(z:Int)(n:Int):Prop:=fQ W4 f303 (aaf z n) [zS z,iS n] (zS (z*2^n.toNat))
theorem Lw(b:Bool)(l:Ω)(c:Bool)(m:Ω):(
 let r:=λ(y m:Bool)=>y==m
 let k:=true=true/\True
 let e:=λ(y:Ω)=>∀i,i<y.length->k
 let f:=aF IntKind.u32
 let v:=λ(y:Ω)=>λi=>f.enc (y.getD i 0)
 let d:=λ(y:Ω)=>ah f y.length (v y)
 let w:=λ(y m:Ω)(z:Nat)=>f.enc ((cf (d y) (d m)).getD z 0)
 let h:=λ(y m:Ω)=>ah f (cf (d y) (d m)).length λi=>w y m i
 let o:=λ(y m:Bool)(z A:Ω)=>decide (zv y z+zv m A<0)
 let p:=λ(y m:Bool)(z A:Ω)=>(dz (zv y z+zv m A)).length
 let q:=λ(y m:Bool)(z A:Ω)(B:Nat)=>(dz (zv y z+zv m A)).getD B 0
 let s:=λ(y m:Ω)=>decide (nU (d y) (d m)>=0)
 let t:=λ(y m:Ω)=>(e y/\e m)/\zL (d y) (d m)
 let x:=λ(y m:Ω)(z:Nat)=>f.enc ((oh (d y) (d m)).getD z 0)
 let g:=λ(y m:Ω)=>ah f (oh (d y) (d m)).length λi=>x y m i
 let u:=λ(y m:Ω)=>(True/\∀i,i<(oh (d y) (d m)).length->k)/\br (g y m)
 let j:=λ(y:Bool)(m z:Ω)=>(dz (zv y (g m z))).length
 ab 2 ((r b c=true->ab 2 (((e l/\e m)/\br (d l)/\br (d m))/\ab 2 (((True/\∀i,i<(cf (d l) (d m)).length->k)/\br (h l m))/\ab 2 ((decide
  (zv b (h l m)<0)=o b c l m/\((dz (zv b (h l m))).length=p b c l m/\∀i,i<(dz (zv b (h l m))).length->(dz (zv b (h l m))).getD i 0=q b c l m
  i/\True)/\True)/\True))))/\(r b c=false->ab 2 (((e l/\e m)/\pO (d l)/\pO (d m))/\True/\(s l m=true->ab 2 (t l m/\ab 2 (u l m/\ab 2 ((decide
  (zv b (g l m)<0)=o b c l m/\(j b l m=p b c l m/\∀i,i<j b l m->(dz (zv b (g l m))).getD i 0=q b c l m i/\True)/\True)/\True))))/\(s l m
  =false->ab 2 (t m l/\ab 2 (u m l/\ab 2 ((decide (zv c (g m l)<0)=o b c l m/\(j c m l=p b c l m/\∀i,i<j c m l->(dz (zv c (g m l))).getD
  i 0=q b c l m i/\True)/\True)/\True))))))))=SP b l c m:=by kernel_rfl
theorem OQ(x:Int)(y:Int):(
 let g:=λ(x:Int)(y:Nat)=>(aF IntKind.u32).enc ((dz x).getD y 0)
 let c:=λ(x:Int)=>aj.ak [SV.bool (decide (x<0)),SV.bF 1 (dz x).length λi=>g x i]/\fit (zz x)
 let d:=λ(x:Int)=>∀i,i<(dz (zz x)).length->true=true/\True
 let h:=λ(x:Int)(y:Nat)=>(aF IntKind.u32).enc ((dz (zz x)).getD y 0)
 let e:=λ(x:Int)=>mU (ah (aF IntKind.u32) (dz (zz x)).length λi=>h x i)
 let f:=λ(x y:Int)=>(dz (zz (zz x)+zz (zz y))).length
 ab 2 (c x/\ab 2 (c y/\ab 5 (((True/\d x/\True/\d y)/\e x/\e y)/\ab 2 ((decide (zz (zz x)+zz (zz y)<0)=decide (x+y<0)/\(f x y=(dz (x+y)).length
  /\∀i,i<f x y->(dz (zz (zz x)+zz (zz y))).getD i 0=(dz (x+y)).getD i 0/\True)/\True)/\True)))))=TG x y:=by kernel_rfl
theorem OU(x:Int)(y:Int):(
 let g:=λ(x:Int)(y:Nat)=>(aF IntKind.u32).enc ((dz x).getD y 0)
 let e:=λ(x:Int)=>aj.ak [SV.bool (decide (x<0)),SV.bF 1 (dz x).length λi=>g x i]/\fit (zz x)
 let f:=λ(x:Int)=>∀i,i<(dz (zz x)).length->true=true/\True
 let h:=λ(x:Int)(y:Nat)=>(aF IntKind.u32).enc ((dz (zz x)).getD y 0)
 let d:=λ(x:Int)=>ah (aF IntKind.u32) (dz (zz x)).length λi=>h x i
 let c:=λ(x y:Int)=>zz (zz x)+zv (!decide (zz y<0)) (d y)
 ab 2 (e x/\ab 2 (e y/\ab 5 (((True/\f x/\True/\f y)/\mU (d x)/\mU (d y))/\ab 2 ((decide (c x y<0)=decide (x-y<0)/\((dz (c x y)).length=
  (dz (x-y)).length/\∀i,i<(dz (c x y)).length->(dz (c x y)).getD i 0=(dz (x-y)).getD i 0/\True)/\True)/\True)))))=Ts x y:=by kernel_rfl
theorem PM(x:Int)(y:Int):(
 let k:=λ(x:Int)(y:Nat)=>(aF IntKind.u32).enc ((dz x).getD y 0)
 let e:=λ(x:Int)=>aj.ak [SV.bool (decide (x<0)),SV.bF 1 (dz x).length λi=>k x i]/\fit (zz x)
 let c:=λ(x:Int)=>decide (zz x<0)
 let f:=λ(x:Int)=>∀i,i<(dz (zz x)).length->true=true/\True
 let o:=λ(x:Int)(y:Nat)=>(aF IntKind.u32).enc ((dz (zz x)).getD y 0)
 let d:=λ(x:Int)=>ah (aF IntKind.u32) (dz (zz x)).length λi=>o x i
 let g:=λ(x y:Int)=>(f x/\f y)/\pO (d x)/\pO (d y)
 let h:=λ(x y:Int)=>(c x=true->ab 2 (g y x/\ab 2 (nU (d y) (d x)=aW (x-y)/\True)))/\(c x=false->ab 2 (g x y/\ab 2 (nU (d x) (d y)
  =aW (x-y)/\True)))
 let j:=λ(x y:Int)=>(c x=true->True/\((!c y)=true->ab 2 (1=aW (y-x)/\True))/\((!c y)=false->True/\h y x))/\(c x=false->ab 2 (h y
  x))
 ab 2 (e x/\ab 2 (e y/\True/\(c x=true->True/\((!c y)=true->ab 2 (-1=aW (x-y)/\True))/\((!c y)=false->j y x))/\(c x=false->True/\j y x))))=Tc x y:=by kernel_rfl
theorem LW(x:Int)(y:Int):(
 let q:=λ(x:Int)=>(dz x).length
 let d2:=λ(x:Int)(y:Nat)=>(aF IntKind.u32).enc ((dz x).getD y 0)
 let Q:=λ(x:Int)=>SV.bF 1 (q x) λi=>d2 x i
 let w:=([]:List SV)
 let R:=λ(x:Int)=>aj.ak (SV.bool (decide (x<0))::Q x::w)/\fit (zz x)
 let K:=λ(x:Int)=>(dz (zz x)).length
 let d:=λ(x:Int)=>(↑(K x):Int)
 let z:=λ(x:Int)=>d x==0
 let T:=λ(x y:Int)=>(decide (x*y<0)=false/\(dz (x*y)).length=0/\True)/\True
 let u:=λ(x y:Int)=>W (d x+d y)
 let f:=i32
 let c:=λ(x y:Int)=>q x+q y
 let c0:=λ(y m:Int)=>ah f (c y m) λx=>SV.int .u32 0::w
 let L:=λ(x:Int)=>decide (zz x<0)
 let h:=λ(x:Int)=>sm (L x)
 let g:=λ(x:Int)=>sm (K x)/\∀i,i<K x->sm ((dz (zz x)).getD i 0)/\True
 let k:=λ(x y:Int)=>(u x y).toNat
 let A:=λ(x y:Int)=>sm 0/\sm (k x y)
 let r:=λ(x:Int)=>d x=d x
 let M:=sm (0:Int)
 let c1:=ab 50 True
 let B:=([]:List ar)
 let c2:=λ(x:Int)=>List.map ar.shape (ar.s (SV.bool (decide (x<0)))::ar.s (Q x)::B)
 let o:=λ(x:Int)=>c2 x=c2 x
 let p:=λ(x:Int)=>sm (decide (x<0))/\(sm (q x)/\∀i,i<q x->sm ((dz x).getD i 0)/\True)/\True
 let c3:=List.map ar.shape (ar.s SV.ff::B++(ar.s SV.aq::B++B))
 let C:=c3=c3
 let D:=ab 2 True
 let c4:=([]:List (Option (Nat×Nat)))
 let E:=c4=c4
 let N:=f.n
 let O:=1=N
 let e:=f.qW
 let d3:=λ(x:Ω)(y:Nat)=>f.enc (x.getD y e)
 let F:=λ(x:Ω)=>λj=>d3 x j
 let G:=λ(x y:Int)=>(dz (zz x)).getD y.toNat 0
 let c5:=ab 43 True
 let c6:=λ(x y m s:Int)=>0<=W (x+y)/\W (x+y)< ↑(k m s)
 let t:=λ(x y:Int)=>0+(W (x+y)).toNat
 let v:=λ(x:Int)=>W (x+1)
 let P:=λ(x y m s Z:Int)(y1:Ω)=>U (U (U (U (G x y)*U (G m s))+U (y1.getD (t y s) e))+Z)
 let c7:=λ(x y m s Z:Int)(y1:Ω)=>P x y m s Z y1/4294967296
 let c8:=λ(x y m s Z:Int)(y1:Ω)=>ah f (c x y) λi'=>af (decide (i'=t m s)) (cE (f.enc (y1.getD (t m s) e)) 0 (SV.int .u32
  (V (P x m y s Z y1))::w)) (F y1 i')
 let c9:=λ(x y:Int)=>(↑(q x)-v y).toNat<(↑(q x)-y).toNat
 let H:=λ(x y:Int)=>0+(W (x+d y)).toNat
 let d0:=λ(x y m s:Int)(Z:Ω)=>ah f (c x y) λi'=>af (decide (i'=H m y)) (cE (f.enc (Z.getD (H m y) e)) 0 (SV.int .u32 (V
  s)::w)) (F Z i')
 let d4:=λ(x:Ω)(y:Nat)=>f.enc (x.getD (0+y) e)
 let d1:=λ(x y:Int)(m:Ω)=>ah (aF IntKind.u32) (k x y) λi=>d4 m i
 let J:=λ(x y:Int)(m:Ω)=>zv (!L x==L y) (d1 x y m)
 ab (2:Nat) (R x/\ab (2:Nat) (R y/\True/\(z x=true->ab (3:Nat) (T x y))/\(z x=false->True/\(z y=true->ab (2:Nat) (T x y))/\(z y=false
  ->(sm (u x y)/\(0:Int)<=u x y/\u x y<=(9223372036854775807:Int)/\(4:Int)*u x y<=(281474976710656:Int))/\ab (2:Nat) ((rD (dz x) (dz y) (0:
  Int) (c0 x y)/\ab (5:Nat) (h x/\True/\h y/\g y/\A x y/\ab (31:Nat) (g x/\r x/\M/\c1))/\o x/\p x/\o y/\p y/\C/\D/\E/\((k x y=c x y/\O/\
  ∀i,i<k x y->(0:Int)=(c0 x y).getD i e/\True)/\True)/\True)/\∀(n:Int)(l:Ω),rD (dz x) (dz y) n l->True/\(decide (n<d x)=
  true->((0:Int)<=n/\n<d x)/\ab (3:Nat) ((rT (dz x) (dz y) n (0:Int) (0:Int) (ah f (c x y) (F l))/\ab (5:Nat) (h x/\True/\h y/\g y/\A x
  y/\n=n/\sm (G x n)/\M/\ab (28:Nat) (g x/\r x/\n=n/\ab (4:Nat) (g y/\r y/\M/\c5)))/\o x/\p x/\o y/\p y/\C/\D/\E/\((sm (c x y)/\N=N
  /\∀i,i<c x y->l.getD i e=(ah f (c x y) (F l)).getD i e/\True)/\True)/\True)/\∀(b X:Int)(l:Ω),rT (dz x) (dz y) n b X
  l->True/\(decide (b<d y)=true->((0:Int)<=b/\b<d y)/\True/\c6 n b x y/\t n b<c x y/\True/\(0:Int)<=(32:Int)/\c6 n b x y/\t
  n b<c x y/\ab (2:Nat) (rT (dz x) (dz y) n (v b) (c7 x n y b X l) (c8 x y n b X l)/\c9 y b/\ab (5:Nat) (h x/\True/\h y/\g y/\A x y
  /\n=n/\sm (G x n)/\sm (c7 x n y b X l)/\ab (28:Nat) (g x/\r x/\n=n/\ab (4:Nat) (g y/\r y/\sm (v b)/\c5)))/\o x/\p x/\o y/\p y/\C/\
  D/\E/\((sm (c x y)/\O/\∀i,i<c x y->(if decide (i=t n b)=true then V (P x n y b X l)else l.getD i e)=(c8 x y n b X l).getD i e/\
  True)/\True)/\True))/\(decide (b<d y)=false->((0:Int)<=W (n+d y)/\W (n+d y)< ↑(k x y))/\H n y<c x y/\ab (2:Nat) (rD (dz x) (dz y) (v
  n) (d0 x y n X l)/\c9 x n/\ab (5:Nat) (h x/\True/\h y/\g y/\A x y/\ab (31:Nat) (g x/\r x/\sm (v n)/\c1))/\o x/\p x/\o y/\p y/\C/\D/\E/\
  ((sm (c x y)/\O/\∀i,i<c x y->(if decide (i=H n y)=true then V X else l.getD i e)=(d0 x y n X l).getD i e/\True)/\True)/\True))))/\(decide
  (n<d x)=false->True/\((0:Nat)+k x y<=c x y/\∀i,i<c x y->true=true)/\((True/\∀i,i<k x y->true=true/\True)/\br (d1
  x y l))/\ab (2:Nat) ((decide (J x y l<(0:Int))=decide (x*y<(0:Int))/\((dz (J x y l)).length=(dz (x*y)).length/\∀i,i<(dz (J x y
  l)).length->(dz (J x y l)).getD i (0:Int)=(dz (x*y)).getD i (0:Int)/\True)/\True)/\True))))))))=TD x y:=by kernel_rfl
theorem L3(z:Int)(n:Int):(
 let k:=λ(x:Int)=>(dz x).length
 let c5:=λ(x:Int)(m:Nat)=>(aF IntKind.u32).enc ((dz x).getD m 0)
 let G:=λ(x:Int)=>SV.bF 1 (k x) λi=>c5 x i
 let r:=([]:List SV)
 let B:=λ(x:Int)=>(dz (zz x)).length
 let d:=λ(x:Int)=>(↑(B x):Int)
 let H:=λ(x:Int)=>d x==0
 let o:=λ(x m:Int)=>x*2^m.toNat
 let J:=(32:Int)≠(0:Int)
 let h:=λ(x:Int)=>W (x.tdiv 32)
 let p:=λ(x m:Int)=>W (W (d x+h m)+1)
 let t:=λ(x:Int)=>x.toNat/32
 let C:=λ(x:Int)=>x.toNat%32
 let e:=i32
 let c:=λ(x m:Int)=>k x+t m+1
 let K:=λ(m s:Int)=>ah e (c m s) λx=>SV.int .u32 0::r
 let L:=λ(x:Int)=>sm (decide (zz x<0))
 let u:=λ(x:Int)=>U (x.tmod 32)
 let f:=λ(x m:Int)=>(p x m).toNat
 let M:=λ(x m:Int)=>sm 0/\sm (f x m)
 let N:=λ(x:Int)=>sm (B x)/\∀i,i<B x->sm ((dz (zz x)).getD i 0)/\True
 let O:=ab 31 True
 let v:=([]:List ar)
 let w:=λ(x:Int)=>List.map ar.shape (ar.s (SV.bool (decide (x<0)))::ar.s (G x)::v)
 let P:=λ(x:Int)=>sm (decide (x<0))/\(sm (k x)/\∀i,i<k x->sm ((dz x).getD i 0)/\True)/\True
 let y:=List.map ar.shape (ar.s SV.ff::v++(ar.s SV.aq::v++v))
 let Q:=ab 2 True
 let A:=([]:List (Option (Nat×Nat)))
 let R:=1=e.n
 let g:=e.qW
 let T:=λ(x m s:Int)=>0<=W (x+h m)/\W (x+h m)< ↑(f s m)
 let j:=λ(x m:Int)=>0+(W (x+h m)).toNat
 let D:=λ(x m:Int)=>W (W (x+h m)+1)
 let q:=λ(x m:Int)=>0+(D x m).toNat
 let c0:=λ(x m s:Int)=>U (U ((dz (zz x)).getD m.toNat 0)*2^min (u s).toNat 64)
 let c1:=λ(x:Ω)(m s X:Int)=>bits BinOp.or IntKind.u32 (x.getD (j m s) g) (V (c0 X m s))
 let c2:=λ(x:Ω)(m s X:Int)=>cE (e.enc (x.getD (j m s) g)) 0 (SV.int .u32 (c1 x m s X)::r)
 let c3:=λ(x m s:Int)=>V (c0 x m s/4294967296)
 let c4:=λ(x m s:Int)(X:Ω)=>ah e (c x m) λZ=>af (decide (Z=q s m)) (cE (af (decide (q s m=j s m)) (c2 X s m x) (e.enc
  (X.getD (q s m) g))) 0 (SV.int .u32 (c3 x s m)::r)) (af (decide (Z=j s m)) (c2 X s m x) (e.enc (X.getD Z g)))
 let c6:=λ(x:Ω)(m:Nat)=>e.enc (x.getD (0+m) g)
 let E:=λ(x m:Int)(s:Ω)=>ah (aF IntKind.u32) (f x m) λi=>c6 s i
 let F:=λ(x m:Int)(s:Ω)=>dz (zv (decide (zz x<0)) (E x m s))
 ab (2:Nat) ((aj.ak (SV.bool (decide (z<(0:Int)))::G z::r)/\fit (zz z))/\ab (2:Nat) ((H z=true->ab (2:Nat) ((decide (o z n<(0:Int))
  =false/\(dz (o z n)).length=(0:Nat)/\True)/\True))/\(H z=false->J/\J/\True/\(sm (p z n)/\(0:Int)<=p z n/\p z n<=(9223372036854775807:Int)
  /\(4:Int)*p z n<=(281474976710656:Int))/\ab (2:Nat) ((na (dz z) (t n) (C n) (0:Int) (K z n)/\ab (5:Nat) (L z/\True/\sm (h n)/\sm (u n)/\M
  z n/\ab (23:Nat) (N z/\d z=d z/\sm (0:Int)/\O))/\w z=w z/\P z/\y=y/\Q/\A=A/\((f z n=c z n/\R/\∀i,i<f z n->(0:Int)=(K
  z n).getD i g/\True)/\True)/\True)/\∀(b:Int)(l:Ω),na (dz z) (t n) (C n) b l->True/\(decide (b<d z)=true->((0:Int)<=b/\b
  <d z)/\True/\(0:Int)<=u n/\True/\T b n z/\j b n<c z n/\T b n z/\j b n<c z n/\True/\(0:Int)<=(32:Int)/\((0:Int)<=D b n/\D b
  n< ↑(f z n))/\q b n<c z n/\ab (2:Nat) (na (dz z) (t n) (C n) (W (b+(1:Int))) (c4 z n b l)/\(↑(k z)-W (b+(1:Int))).toNat<(↑(k z)-
  b).toNat/\ab (5:Nat) (L z/\True/\sm (h n)/\sm (u n)/\M z n/\ab (23:Nat) (N z/\d z=d z/\sm (W (b+(1:Int)))/\O))/\w z=w z/\P z/\y=y
  /\Q/\A=A/\((sm (c z n)/\R/\∀i,i<c z n->(if decide (i=q b n)=true then c3 z b n else if decide (i=j b n)=true then c1 l b n z else
  l.getD i g)=(c4 z n b l).getD i g/\True)/\True)/\True))/\(decide (b<d z)=false->True/\((0:Nat)+f z n<=c z n/\∀i,i<c z n->true
  =true)/\((True/\∀i,i<f z n->true=true/\True)/\br (E z n l))/\ab (2:Nat) ((decide (zv (decide (zz z<(0:Int))) (E z n l)<(0:Int))
  =decide (o z n<(0:Int))/\((F z n l).length=(dz (o z n)).length/\∀i,i<(F z n l).length->(F z n l).getD i (0:Int)=(dz (o z n)).getD i (0
  :Int)/\True)/\True)/\True)))))))=Tu z n:=by kernel_rfl
theorem jV{l:Ω}(h:mU l):canon l:=by unfold mU at h;exact h.1
theorem iC{l:Ω}(h:mU l):l.length<=1000000:=by unfold mU at h;exact h.2
theorem CL{l:Ω}(h:mU l):pO l:=Ph (jV h) (by have:=iC h;omega)
theorem sX{l:Ω}(h:mU l):br l:=ER (jV h).1 (by have:=iC h;omega)
theorem dzS{z:Int}(h:fit z):mU (dz z):=by unfold mU;exact⟨bI z,dm h⟩
theorem OF(a b:Ω):cO (cf a b):=by unfold cf;exact mo _ _
theorem UJ(a b:Ω):cO (oh a b):=by unfold oh;exact mo _ _
theorem Mf{a b:Ω}(c:cO a)(d:cO b):nv (cf a b)=nv a+nv b:=by
 unfold cf;have e:=fV c;have h:=fV d;have i:=gT (Nat.le_max_left a.length b.length);have j:=gT (Nat.le_max_right a.length b.length);exact wc (by omega) (by rw[bD];omega)
theorem Nl{a b:Ω}(c:cO a)(d:cO b)(h:nv b<=nv a):nv (oh a b)=nv a-nv b:=by
 unfold oh;have e:=fV c;have i:=fV d;exact wc (by omega) (by omega)
theorem mW{a b:Ω}:(0<=nU a b)↔nv b<=nv a:=by
 unfold nU aW;split
 . omega
 . split<;>omega
theorem LU{a b:Ω}(d:mU a)(e:mU b)(h:nv b<=nv a):zL a b:=by
 unfold zL;refine⟨sX d,sX e,?_,h⟩;rcases Kv a.length b.length with c|c
 . have:=w9 (jV d) (jV e) c;omega
 . exact c
theorem k360:aH prog UP:=av k390 hm func360 (by kernel_rfl) (by kernel_rfl) Ta.ok (by kernel_rfl) (λ_=>[]) λa d=>by
 have h:SP a.1 a.2.1 a.2.2.1 a.2.2.2:=by
  rw[<-Lw];simp only[aA];obtain⟨b,l,c,m⟩:=a
  try dsimp only at d
  have k:=iC d.1;have o:=iC d.2;have d1:=(jV d.1).1;have d2:=(jV d.2).1;have p:br (cf l m):=ER (OF _ _) (by rw[zD];omega);have j:∀x y:Ω,x.length<=1000000->br (oh x y):=λx y h=>ER (UJ _ _) (by rw[Fh];omega)
  simp[-List.getD_eq_getElem?_getD,sX d.1,sX d.2,CL d.1,CL d.2,p,mW];refine⟨λe=>?_,λe=>⟨λi=>?_,λq=>?_⟩⟩
  . subst e;have:zv b (cf l m)=zv b l+zv b m:=by unfold zv;rw[Mf d1 d2];split<;>omega
    rw[this];simp
  . have:zv b (oh l m)=zv b l+zv c m:=by unfold zv;rw[Nl d1 d2 i];cases b<;>cases c<;>simp at e⊢ <;>omega
    rw[this];simp[LU d.1 d.2 i,j _ _ k]
  . have i:nv l<=nv m:=by
     rcases Qe (nv l) (nv m)with h|h
     . omega
     . exact absurd (mW.2 h) (by omega)
    have:zv c (oh m l)=zv b l+zv c m:=by unfold zv;rw[Nl d2 d1 i];cases b<;>cases c<;>simp at e⊢ <;>omega
    rw[this];simp[LU d.2 d.1 i,j _ _ o]
 exact h
theorem k304:aH prog UT:=av k360 hm func304 (by kernel_rfl) (by kernel_rfl) DK.ok (by kernel_rfl) (λ_=>[]) λa b=>by
 have h:TG a.1 a.2:=by
  rw[<-OQ];simp only[aA];obtain⟨x,y⟩:=a
  try dsimp only at b
  simp[-List.getD_eq_getElem?_getD,b,dzS b.1,dzS b.2]
 exact h
theorem k364:aH prog Vp:=av k304 hm func364 (by kernel_rfl) (by kernel_rfl) DK.ok (by kernel_rfl) (λ_=>[]) λa b=>by
 have h:Ts a.1 a.2:=by
  rw[<-OU];simp only[aA];obtain⟨x,y⟩:=a
  try dsimp only at b
  simp[-List.getD_eq_getElem?_getD,b,dzS b.1,dzS b.2,Int.sub_eq_add_neg]
 exact h
theorem gH{a:Int}(h:a<0):aW a= -1:=by unfold aW;rw[JB h]
theorem jj{a:Int}(h:0<a):aW a=1:=by unfold aW;rw[JA (by omega),JA (by omega)]
theorem gV:aW 0=0:=by unfold aW;simp
theorem NN{a b:Int}(c:a<0↔b<0)(d:a=0↔b=0):aW a=aW b:=by unfold aW;simp only[c,d]
theorem ZT:aH prog UH:=av k364 hm func302 (by kernel_rfl) (by kernel_rfl) DK.ok (by kernel_rfl) (λ_=>[]) λa b=>by
 have h:Tc a.1 a.2:=by
  rw[<-PM];simp only[aA];obtain⟨x,y⟩:=a
  try dsimp only at b
  simp[-List.getD_eq_getElem?_getD,b,dzC b.1,dzC b.2];have c:=iB x;have d:=iB y
  repeat' first|intro _|apply And.intro
  all_goals first
   |omega
   |(rw[gH (by omega)])
   |(rw[jj (by omega)])
   |(unfold nU;refine NN ?_ ?_<;>omega)
 exact h
theorem kE{l:Ω}{N:Nat}(h:N=l.length):ah (aF .u32) N (λj=>[SV.int .u32 (l.getD j 0)])=l:=by subst h;exact Te
theorem Ce(a b:Nat):List.replicate a (0:Int)++List.replicate b 0=List.replicate (a+b) 0:=by simp
theorem V3(a b:Ω):rD a b 0 (List.replicate (a.length+b.length) 0):=by
 unfold rD;refine⟨by omega,by omega,?_⟩;simp only[Ql,Z8,nv,JQ,CE];rw[Ce];congr 1;omega
theorem Fu{a b:Ω}{i:Int}{c:Ω}(h:rD a b i c):c.length=a.length+b.length:=by
 unfold rD at h;obtain⟨d,e,rfl⟩:=h;simp;omega
theorem FP{a b:Ω}{i k c:Int}{d:Ω}(h:rT a b i k c d):d.length=a.length+b.length:=by
 unfold rT at h;obtain⟨e,j,m,o,rfl,p⟩:=h;simp;omega
theorem V6{a b:Ω}{i:Int}{c:Ω}(h:rD a b i c)(d:i<a.length):rT a b i 0 0 c:=by
 unfold rD at h;obtain⟨e,k,j⟩:=h;unfold rT zM;simp only[Ql,Z8,nv,KA,X6,Jv,Xf,Int.sub_self];refine⟨e,d,by omega,by omega,?_,trivial⟩;rw[j,G8,Jq]
theorem Ij(a b:Ω)(i k:Nat):zM a b i (k+1)=zM a b i k+pw (i+k)*(a.getD i 0*b.getD k 0):=by
 unfold zM;rw[fv,Kg,Kg,gG,X7 (a.getD i 0) (pw k),Jk (pw i) (pw k),Int.add_assoc]
theorem invN_step{a b:Ω}{i k c:Int}{d:Ω}(r:cO a)(u:cO b)(h:rT a b i k c d)(G:k<b.length):
 0<=c/\c<=4294967295/\0<=d.getD (i+k).toNat 0/\d.getD (i+k).toNat 0<4294967296/\∀s,s=a.getD i.toNat 0*b.getD k.toNat 0+d.getD (i+k).toNat 0+c->rT a b i (k+1) (s/4294967296) (d.set (i+k).toNat (V s)):=by
 unfold rT at h⊢;obtain⟨y,z,H,J,A,K⟩:=h;have L:=bH r i.toNat;have B:(i+k).toNat=i.toNat+k.toNat:=by omega
 have C:(k+1).toNat=k.toNat+1:=by omega
 rw[B,C];have w:=bN (i.toNat+k.toNat);have D:0<=nv (a.take i.toNat)*nv b:=Ja (cm r _).1 (fV u).1;have E:=cm u k.toNat;have o:nv (a.take i.toNat)*nv b<=zM a b i.toNat k.toNat:=by
  unfold zM;have:0<=pw i.toNat*(a.getD i.toNat 0*nv (b.take k.toNat)):=Ja (by have:=bN i.toNat;omega) (Ja (by omega) (by omega));omega
 have p:zM a b i.toNat k.toNat<=nv (a.take i.toNat)*nv b+pw (i.toNat+k.toNat)*a.getD i.toNat 0:=by
  unfold zM;have:pw i.toNat*(a.getD i.toNat 0*nv (b.take k.toNat))<=pw i.toNat*(a.getD i.toNat 0*pw k.toNat):=Jt (Jt (by omega) (by omega)) (by have:=bN i.toNat;omega);rw[gG,Jk,J6 (pw k.toNat)];omega
 have F:=KG w o;have q:=KG w p;rw[nw]at q;have M:0<=nv (a.take i.toNat)*nv b/pw (i.toNat+k.toNat):=Kb D (by omega);obtain⟨m,hm⟩:∃m,b.length-k.toNat=m+1:=⟨b.length-k.toNat-1,by omega⟩;have e:d=dg (i.toNat+k.toNat) (zM a b i.toNat k.toNat)++(nv (a.take i.toNat)*nv b/pw (i.toNat+k.toNat))%4294967296::(dg m (nv (a.take i.toNat)*nv b/pw (i.toNat+k.toNat)/4294967296)++List.replicate (a.length-i.toNat) 0):=by
  rw[A,hm,dg];rfl
 have j:d.getD (i.toNat+k.toNat) 0=(nv (a.take i.toNat)*nv b/pw (i.toNat+k.toNat))%4294967296:=by
  rw[e,J0,Jy (by simp),mL,Nat.sub_self];rfl
 rw[j];refine⟨by omega,by omega,by omega,by omega,λs x=>⟨y,z,by omega,by omega,?_,?_⟩⟩
 . rw[e,cG (mL _ _),Ij,<-Nat.add_assoc,uL,show b.length-(k.toNat+1)=m by omega,cq];have:V s=(zM a b i.toNat k.toNat/pw (i.toNat+k.toNat)+a.getD i.toNat 0*b.getD k.toNat 0)%4294967296:=by
    rw[iA,x];omega
   rw[this,Jq];rfl
 . rw[Ij,<-Nat.add_assoc,lH,<-cq,x];omega
theorem Nu{a b:Ω}(d:cO a)(e:cO b):0<=nv a*nv b/\nv a*nv b<pw (a.length+b.length):=by
 have c:=fV d;have h:=fV e;refine⟨Ja c.1 h.1,?_⟩;rw[gG];have i:nv a*nv b<=nv a*pw b.length:=Jt (by omega) c.1;have j:nv a*pw b.length<pw a.length*pw b.length:=X8 c.2 (bN _);omega
theorem O5{a b:Ω}{i k c:Int}{d:Ω}(p:cO a)(j:cO b)(h:rT a b i k c d)(r:(b.length:Int)<=k):rD a b (i+1) (d.set (i+b.length).toNat (V c)):=by
 unfold rT at h;obtain⟨u,w,x,y,o,m⟩:=h;have q:k.toNat=b.length:=by omega
 rw[q]at o m;have j:=Nu (mN p i.toNat) j;rw[Kj,Qn (by omega)]at j;rw[Qq j.1 j.2,Int.sub_zero]at m;unfold rD;refine⟨by omega,by omega,?_⟩;rw[o,Nat.sub_self,dg,Jj,kO (by omega),show(i+(b.length:Int)).toNat=i.toNat+b.length by omega,cG (mL _ _),iA,m];have e:nv (a.take (i+1).toNat)*nv b=zM a b i.toNat b.length:=by
  unfold zM;rw[show(i+1).toNat=i.toNat+1 by omega,fv,Qo,Jz (J1 _),Jk]
 rw[e,show(i+1).toNat+b.length=i.toNat+b.length+1 by omega,re,Jq,show a.length-(i+1).toNat=a.length-i.toNat-1 by omega];rfl
theorem LX{a b:Ω}{i:Int}{c:Ω}(h:rD a b i c)(j:(a.length:Int)<=i):c=dg (a.length+b.length) (nv a*nv b):=by
 unfold rD at h;obtain⟨k,m,d⟩:=h;have e:i.toNat=a.length:=by omega
 rw[d,e,Jz (J1 _)];simp
theorem k305:aH prog W4:=av ZT hm func305 (by kernel_rfl) (by kernel_rfl) DK.ok (by kernel_rfl) (λa=>ZY a.1 a.2) λa w=>by
 have h:TD a.1 a.2:=by
  rw[<-LW];simp only[aA];obtain⟨x,y⟩:=a
  try dsimp only at w
  have X:=dm w.1;have Z:=dm w.2;have A:=(bI x).1;have B:=(bI y).1;simp[-List.getD_eq_getElem?_getD,w];have L:W (↑(dz x).length+ ↑(dz y).length)=((dz x).length+(dz y).length:Int):=aO (by omega) (by omega);rw[L];refine⟨λe=>?_,λex=>⟨λe=>?_,λey=>⟨by omega,⟨V3 _ _,by omega,λi H=>(gR _ _).symm⟩,λn l d=>⟨λC=>?_,λC=>?_⟩⟩⟩⟩
  . rw[(oz (z:=x)).1 (by rw[e];rfl)];simp[gz]
  . rw[(oz (z:=y)).1 (by rw[e];rfl)];simp[gz]
  . have D:0<=n:=by unfold rD at d;exact d.1
    have m:=Fu d;rw[kE m.symm];refine⟨⟨D,C⟩,⟨V6 d C,λ_ _=>rfl⟩,λk c J b=>⟨λE=>?_,λE=>?_⟩⟩
    . have M:0<=k:=by unfold rT at b;exact b.2.2.1
      have j:=FP b;have F:W (n+k)=n+k:=aO (by omega) (by omega);have G:W (k+1)=k+1:=aO (by omega) (by omega);rw[F,G];obtain⟨c1,c2,c3,c4,o⟩:=invN_step A B b E;have da:=bH A n.toNat;have db:=bH B k.toNat;have p0:0<=(dz x).getD n.toNat 0*(dz y).getD k.toNat 0:=Ja (by omega) (by omega);have p1:(dz x).getD n.toNat 0*(dz y).getD k.toNat 0<=4294967295*4294967295:=Qb (by omega) (by omega) (by omega) (by omega)
      rw[ct (n:=(dz x).getD n.toNat 0) (by omega) (by omega),ct (n:=(dz y).getD k.toNat 0) (by omega) (by omega),ct (n:=(dz x).getD n.toNat 0*(dz y).getD k.toNat 0) (by omega) (by omega),ct (n:=J.getD (n+k).toNat 0) (by omega) (by omega),ct (n:=_+J.getD (n+k).toNat 0) (by omega) (by omega),ct (by omega) (by omega),tv j.symm];have:=o _ rfl
      and_intros<;>first|omega|assumption|exact λi H=>(bo (by omega)).symm
    . have j:=FP b;have F:W (n+ ↑(dz y).length)=n+(dz y).length:=aO (by omega) (by omega);have G:W (n+1)=n+1:=aO (by omega) (by omega);rw[F,G,tv j.symm];have:=O5 A B b E
      and_intros<;>first|omega|assumption|exact λi H=>(bo (by omega)).symm
  . have m:=Fu d;have e:=LX d C;rw[kE (by omega)];have K:=Nu A B;have N:nv l=(x.natAbs:Int)*(y.natAbs:Int):=by rw[e,wc K.1 K.2,iB,iB]
    have O:zv (!decide (x<0)==decide (y<0)) l=x*y:=by
     unfold zv;rw[N];rcases Z6 x with p|p<;>rcases Z6 y with q|q
     . have:(!decide (x<0)==decide (y<0))=false:=by simp;omega
       rw[this,<-p,<-q];simp
     . by_cases r:y=0
       . subst r;simp
       by_cases u:x=0
       . subst u;simp
       have:(!decide (x<0)==decide (y<0))=true:=by simp;omega
       rw[this,JB rfl,<-p,<-Int.mul_neg,<-q]
     . by_cases r:x=0
       . subst r;simp
       by_cases u:y=0
       . subst u;simp
       have:(!decide (x<0)==decide (y<0))=true:=by simp;omega
       rw[this,JB rfl,<-q,<-Int.neg_mul,<-p]
     . by_cases r:x=0
       . subst r;simp
       by_cases u:y=0
       . subst u;simp
       have:(!decide (x<0)==decide (y<0))=false:=by simp;omega
       rw[this,<-Int.neg_mul_neg,<-p,<-q];simp
    rw[O];have R:br l:=ER (by rw[e];exact mo _ _) (by omega);exact⟨by omega,R,by simp⟩
 exact h
theorem two_pos(r:Nat):(0:Int)<2^r:=JZ (by omega)
theorem Ch{n:Int}(h:di n):0<=n/\n<=32000000:=by unfold di at h;exact h
theorem HS{a b:Nat}(h:a<=b):(2:Int)^a<=2^b:=by
 obtain⟨c,rfl⟩:=Nat.le.dest h;rw[Int.pow_add];have d:=two_pos a;have e:=two_pos c;have:(2:Int)^a*1<=2^a*2^c:=Jt (by omega) (by omega);omega
theorem Mh{l:Ω}(h:cO l){r:Nat}(b:r<=32):nv l*2^r<pw (l.length+1):=by
 have c:=fV h;have d:=HS b;have e:=two_pos r;have i:nv l*2^r<pw l.length*2^r:=X8 c.2 e;have j:pw l.length*2^r<=pw l.length*2^32:=Jt d (by have:=bN l.length;omega);rw[bD];omega
theorem Px(l:Ω)(w r:Nat):na l w r 0 (List.replicate (l.length+w+1) 0):=by
 unfold na;refine⟨by omega,by omega,?_⟩;simp only[Ql,Z8,nv,JQ,CE];rw[Ce,Ce];congr 1;omega
theorem tQ{l:Ω}{w r:Nat}{i:Int}{b:Ω}(h:na l w r i b):b.length=l.length+w+1:=by
 unfold na at h;obtain⟨c,d,rfl⟩:=h;simp;omega
theorem FT{l:Ω}{w r:Nat}{i:Int}{b:Ω}(h:na l w r i b)(d:(l.length:Int)<=i):b=List.replicate w 0++dg (l.length+1) (nv l*2^r):=by
 unfold na at h;obtain⟨j,k,c⟩:=h;have e:i.toNat=l.length:=by omega
 rw[c,e,Jz (J1 _)];simp
theorem NS{u y:Int}{r:Nat}(e:0<=u)(b:u<2^r)(d:0<=y)(h:u+2^r*y<4294967296):bits .or .u32 u (2^r*y)=u+2^r*y:=by
 have o:=two_pos r;have i:0<=(2:Int)^r*y:=Ja (by omega) d;obtain⟨u,rfl⟩:=Q8 e;obtain⟨y,rfl⟩:=Q8 d;have j:((2:Int)^r*(y:Int))=((2^r*y:Nat):Int):=by simp
 rw[j]at h⊢;have c:u<2^r:=by
  have:((u:Nat):Int)<((2^r:Nat):Int):=by simpa using b
  omega
 have k:bits .or .u32 (u:Int) ((2^r*y:Nat):Int)=IntKind.u32.wrap ((BitVec.ofInt 32 (u:Int)|||BitVec.ofInt 32 ((2^r*y:Nat):Int)).toNat:Int):=rfl;have m:(BitVec.ofInt 32 (u:Int)|||BitVec.ofInt 32 ((2^r*y:Nat):Int)).toNat=u+2^r*y:=by
  rw[BitVec.toNat_or,Xu,Xu];rw[show(((u:Int)%((2^32:Nat):Int)).toNat)=u by omega,show((((2^r*y:Nat):Int)%((2^32:Nat):Int)).toNat)=2^r*y by omega];rw[Nat.or_comm,<-Nat.two_pow_add_eq_or_of_lt c];omega
 rw[k,m,V_def,Aj (by omega) (by omega)];omega
theorem Vn{l:Ω}{i j:Nat}{u v:Int}{N:Nat}(c:N=l.length):ah i32 N (λb=>af (decide (b=j)) [SV.int .u32 v] (af (decide (b=i)) [SV.int .u32 u] [SV.int .u32 (l.getD b 0)]))=(l.set i u).set j v:=by
 refine kj (by simp[c]) λk h=>?_
 have d:(aF IntKind.u32).dec (af (decide (k=i)) [SV.int .u32 u] [SV.int .u32 (l.getD k 0)])=some (if decide (k=i)=true then u else l.getD k 0):=(aF .u32).Aa _ _ _ _ _ ((aF .u32).self u) ((aF .u32).self _);have e:=(aF .u32).Aa (decide (k=j)) _ _ _ _ ((aF .u32).self v) d;rw[show(aF IntKind.u32).qW=0 from rfl,bo (by simp;omega),bo (by omega)];simpa using e
theorem Ba{l:Ω}{w r:Nat}{i:Int}{c:Ω}(y:cO l)(N:r<32)(h:na l w r i c)(O:i<l.length):
 GD (l.getD i.toNat 0)/\0<=l.getD i.toNat 0*2^r/\l.getD i.toNat 0*2^r<18446744073709551616/\
 na l w r (i+1) ((c.set (i+w).toNat (bits .or .u32 (c.getD (i+w).toNat 0) (V (l.getD i.toNat 0*2^r)))).set (i+w+1).toNat (V (l.getD i.toNat 0*2^r/4294967296))):=by
 unfold na at h⊢;obtain⟨R,X,C⟩:=h;have z:=bH y i.toNat;have m:nv (l.take (i.toNat+1))*2^r=nv (l.take i.toNat)*2^r+pw i.toNat*(l.getD i.toNat 0*2^r):=by
  rw[fv,Qo,Jk]
 generalize l.getD i.toNat 0=x at*
 have A:=two_pos r;have D:=two_pos (32-r);have j:(2:Int)^r*2^(32-r)=4294967296:=by rw[<-Int.pow_add,show r+(32-r)=32 by omega];rfl
 have E:=HS (show r<=31 by omega);have F:0<=x*2^r:=Ja z.1 (by omega);have Z:x*2^r<=4294967295*2^r:=Jh (by omega) (by omega);refine⟨z,F,by omega,by omega,by omega,?_⟩;have B:=cm y i.toNat;have o:0<=nv (l.take i.toNat)*2^r/pw i.toNat/\nv (l.take i.toNat)*2^r/pw i.toNat<2^r:=by
  refine sJ (Ja B.1 (by omega)) ?_;rw[J6];exact KK B.2 A
 have G:(i+(w:Int)).toNat=w+i.toNat:=by omega
 have H:(i+(w:Int)+1).toNat=w+i.toNat+1:=by omega
 have J:(i+1).toNat=i.toNat+1:=by omega
 rw[G,H,J];have hm:(x*2^r)%4294967296=2^r*(x%2^(32-r)):=by
  rw[<-j,J6 x,Int.mul_emod_mul_of_pos _ _ A]
 have p:0<=x%2^(32-r):=Jm _ (by omega);have K:x%2^(32-r)<2^(32-r):=Jo _ D;have q:2^r*(x%2^(32-r))<=2^r*(2^(32-r)-1):=Jt (by omega) (by omega);rw[Qm,j,Ke]at q;have d:c=(List.replicate w 0++dg i.toNat (nv (l.take i.toNat)*2^r))++(nv (l.take i.toNat)*2^r/pw i.toNat)::0::List.replicate (l.length-(i.toNat+1)) 0:=by
  rw[C,re,kO (n:=l.length-i.toNat) (by omega),Qr o.1 (by omega),show l.length-i.toNat-1=l.length-(i.toNat+1) by omega];simp
 have e:(List.replicate w 0++dg i.toNat (nv (l.take i.toNat)*2^r)).length=w+i.toNat:=by simp
 have k:c.getD (w+i.toNat) 0=nv (l.take i.toNat)*2^r/pw i.toNat:=by
  rw[d,J0,Jy (by omega),e,Nat.sub_self];rfl
 have M:bits .or .u32 (c.getD (w+i.toNat) 0) (V (x*2^r))=(nv (l.take i.toNat)*2^r/pw i.toNat+x*2^r)%4294967296:=by
  rw[k,iA,hm,NS o.1 o.2 p (by omega)];omega
 have u:V (x*2^r/4294967296)=(nv (l.take i.toNat)*2^r/pw i.toNat+x*2^r)/4294967296%4294967296:=by
  rw[iA];omega
 rw[M,u,d,cG e,show∀(a b:Int)(L:Ω),(List.replicate w 0++dg i.toNat (nv (l.take i.toNat)*2^r))++a::b::L=((List.replicate w 0++dg i.toNat (nv (l.take i.toNat)*2^r))++[a])++b::L from λa b L=>by simp,cG (by simp;omega),m,re,uL,lH];simp
theorem XN:aH prog WV:=av k305 hm func303 (by kernel_rfl) (by kernel_rfl) T0.ok (by kernel_rfl) (λa=>aaf a.1 a.2) λa d=>by
 have h:Tu a.1 a.2:=by
  rw[<-L3];simp only[aA];obtain⟨z,n⟩:=a
  try dsimp only at d
  have K:=dm d.1;have m:=(bI z).1;have L:=Ch d.2;simp[-List.getD_eq_getElem?_getD,d];have u:n.tdiv 32=(n.toNat/32:Nat):=by rw[Ky (by omega)];omega
  have x:n.tmod 32=(n.toNat%32:Nat):=by rw[X9 (by omega)];omega
  rw[u,x];generalize M:n.toNat/32=w at*
  generalize N:n.toNat%32=r at*
  have o:r<32:=by omega
  have y:W (w:Int)=w:=aO (by omega) (by omega);have A:U (r:Int)=r:=ct (by omega) (by omega);rw[y,A,aO (n:=((dz z).length:Int)+w) (by omega) (by omega),aO (n:=((dz z).length:Int)+w+1) (by omega) (by omega),show max n 0/32=(w:Int) by omega];refine⟨λe=>?_,λex=>⟨by omega,⟨Px _ _ _,by omega,λi k=>(gR _ _).symm⟩,λi l b=>⟨λk=>?_,λk=>?_⟩⟩⟩
  . rw[(oz (z:=z)).1 (by rw[e];rfl)];simp[gz]
  . have B:0<=i:=by unfold na at b;exact b.1
    have c:=tQ b;rw[aO (n:=i+(w:Int)) (by omega) (by omega),aO (n:=i+(w:Int)+1) (by omega) (by omega),aO (n:=i+1) (by omega) (by omega)];obtain⟨C,D,E,p⟩:=Ba m o b k;rw[K7,Qn (by omega),ct (n:=(dz z).getD i.toNat 0) C.1 (by omega),ct (n:=(dz z).getD i.toNat 0*2^r) D E];rw[Vn (by omega)]
    and_intros<;>first|omega|assumption|skip
    intro j O;rw[bo (by simp;omega)]
    congr 1
    rw[bo (by omega)]
  . have c:=tQ b;have e:=FT b k;rw[kE (by omega)];have F:=fV m;have G:nv l=(z.natAbs:Int)*2^n.toNat:=by
     rw[e,vw,W2,List.length_replicate,wc (Ja F.1 (by have:=two_pos r;omega)) (Mh m (by omega)),iB,Int.zero_add,fE,X7,<-Int.pow_add,show 32*w+r=n.toNat by omega]
    have H:zv (decide (z<0)) l=z*2^n.toNat:=by
     unfold zv;rw[G]
     by_cases q:z<0
     . rw[JB (by simpa using q),<-Int.neg_mul];congr 1;omega
     . rw[JA (by simpa using q)];congr 1;omega
    rw[H];have J:br l:=ER (by rw[e];exact Fs.2 ⟨PI _,mo _ _⟩) (by omega);exact⟨by omega,J,by simp⟩
 exact h
def wL(n:Nat):Nat:=if n=0 then 0 else n.log2+1
def bl(z:Int):Int:=(wL z.natAbs:Int)
def QU:List UInt8:=(List.range 256).map λi=>UInt8.ofNat (wL i)
def pq(n:Int):Prop:=0<=n/\n<4294967296
def sV:=iR.one (DN .u32)
def sLV:=iR.cons GF sV
def sLI:=iR.cons GF sI
def sUU:=iR.cons (DN .u64) sU
def frL(l:Ω):SV:=.Gl 41 1 l.length λi=>[.int .u32 (l.getD i 0)]
def vq(a:Ω)(d:Int):Ω:=dg a.length (nv a/d)
def Lf(a:Ω)(s:Int):Ω:=dg (a.length+1) (nv a*2^s.toNat)
def zO(a:Ω)(d:Int):Prop:=br a/\1<=d/\d<4294967296
def Ad(a:Ω)(s:Int):Prop:=br a/\0<=s/\s<32
def wz(z:Int):Prop:=(dz z).length<=2
def sM(a:Ω)(d i b:Int)(q:Ω):Prop:= -1<=i/\i<a.length/\q=List.replicate (i+1).toNat 0++dg (a.length-(i+1).toNat) (nv (a.drop (i+1).toNat)/d)/\b=nv (a.drop (i+1).toNat)%d
def La(a b x y:Int):Prop:=0<=x/\0<=y/\x<18446744073709551616/\y<18446744073709551616/\Int.gcd x y=Int.gcd a b
def invA(l:Ω)(i n:Int):Prop:=0<=i/\i<=l.length/\n=nv (l.take i.toNat)
attribute [irreducible] bl pq vq Lf zO Ad wz sM La invA
def c157:bB:=ow sV.dec (λa=>pq a) (λa=>iS (bl a))
def Vq:List (Nat×bB):=(157,c157)::WV
def SQ(n:Int):Prop:=fQ WV f157 [] [.int .u32 n] (iS (bl n))
def c400:bB:=ow sV.dec (λa=>pq a) (λa=>iS (32-bl a))
def VZ:List (Nat×bB):=(400,c400)::Vq
def Sg(n:Int):Prop:=fQ Vq f400 [] [.int .u32 n] (iS (32-bl n))
def c399:bB:=ow sLV.dec (λa=>zO a.1 a.2) (λa=>.df [lS (vq a.1 a.2),.int .u32 (nv a.1%a.2)])
def WD:List (Nat×bB):=(399,c399)::VZ
def a399(a:Ω)(d:Int):List kM:=[⟨.unit,.list [.int .i64 (.tm 8),.int .u64 (.tm 7),.iQ i32 a.length 0 0],λ_ (s:Int×Int×Ω)=>sM a d s.1 s.2.1 s.2.2,λ_ (s:Int×Int×Ω)=>(s.1+1).toNat⟩]
def TN(a:Ω)(d:Int):Prop:=fQ VZ f399 (a399 a d) [lS a,.int .u32 d] (.df [lS (vq a d),.int .u32 (nv a%d)])
def c401:bB:=ow sLI.dec (λa=>Ad a.1 a.2) (λa=>frL (Lf a.1 a.2))
def Wl:List (Nat×bB):=(401,c401)::WD
def a401(a:Ω)(s:Int):List kM:=[⟨.unit,.list [.int .i64 (.tm 15),.iQ i32 (a.length+1) 0 0],λ_ (x:Int×Ω)=>na a 0 s.toNat x.1 x.2,λ_ (x:Int×Ω)=>(a.length-x.1).toNat⟩]
def TF(a:Ω)(s:Int):Prop:=fQ WD f401 (a401 a s) [lS a,iS s] (frL (Lf a s))
def c392:bB:=ow sUU.dec (λa=>jW a.1/\jW a.2) (λa=>.int .u64 (Int.gcd a.1 a.2:Int))
def Vk:List (Nat×bB):=(392,c392)::Wl
def Zx(a:Int)(b:Int):List kM:=[⟨.unit,.list [.int .u64 (.tm 0),.int .u64 (.tm 1)],λ_ (x:Int×Int)=>La a b x.1 x.2,λ_ (x:Int×Int)=>x.2.toNat⟩]
def Tz(a:Int)(b:Int):Prop:=fQ Wl f392 (Zx a b) [.int .u64 a,.int .u64 b] (.int .u64 (Int.gcd a b:Int))
def c393:bB:=ow sZ.dec (λa=>wz a) (λa=>.int .u64 (a.natAbs:Int))
def UZ:List (Nat×bB):=(393,c393)::Vk
def a393(z:Int):List kM:=[⟨.unit,.list [.int .i64 (.tm 9),.int .u64 (.tm 3)],λ_ (x:Int×Int)=>invA (dz z) x.1 x.2,λ_ (x:Int×Int)=>((dz z).length-x.1).toNat⟩]
def SE(z:Int):Prop:=fQ Vk f393 (a393 z) [zS z] (.int .u64 (z.natAbs:Int))
theorem M5(n:Int):(
 let g:=λ(x:Int)=>decide (x>=65536)
 let c:=λ(x:Int)=>x/65536
 let h:=λ(x:Int)=>decide (c x>=256)
 let j:=(0:Int)<=(8:Int)
 let e:=λ(x:Int)=>IntKind.u8.wrap (c x/256)
 let d:=QU.toArray.toList
 let k:=λ(x:Int)=>decide (x>=256)
 let f:=λ(x:Int)=>IntKind.u8.wrap (x/256)
 ab (2:Nat) ((g n=true->(0:Int)<=(16:Int)/\ab (3:Nat) ((h n=true->j/\ab (2:Nat) (((0:Int)<=e n/\e n<(256:Int))/\ab (2:Nat) (W ((24
  :Int)+W ↑(d.getD (e n).toNat (0:UInt8)).toNat)=bl n/\True)))/\(h n=false->((0:Int)<=IntKind.u8.wrap (c n)/\IntKind.u8.wrap (c n)<(256:Int))/\
  ab (2:Nat) (W ((16:Int)+W ↑(d.getD (IntKind.u8.wrap (c n)).toNat (0:UInt8)).toNat)=bl n/\True))))/\(g n=false->True/\(k n=true->j/\ab (2:
  Nat) (((0:Int)<=f n/\f n<(256:Int))/\ab (2:Nat) (W ((8:Int)+W ↑(d.getD (f n).toNat (0:UInt8)).toNat)=bl n/\True)))/\(k n=false->((0:Int)
  <=IntKind.u8.wrap n/\IntKind.u8.wrap n<(256:Int))/\ab (2:Nat) (W ((0:Int)+W ↑(d.getD (IntKind.u8.wrap n).toNat (0:UInt8)).toNat)=bl n/\True)))))=SQ n:=by kernel_rfl
theorem OI(n:Int):(ab 2 ((True/\pq n)/\ab 2 (W (32-bl n)=32-bl n/\True)))=Sg n:=by kernel_rfl
theorem MB(a:Ω)(d:Int):(
 let c:=λ(x:Ω)=>x.length
 let e:=λ(x:Ω)=>(↑(c x):Int)
 let g:=i32
 let p:=λ(y:Ω)=>ah g (c y) λx=>[SV.int .u32 0]
 let q:=λ(x:Ω)=>c x=c x/\∀i,i<c x->sm (x.getD i 0)/\True
 let f:=λ(x:Ω)=>(e x).toNat
 let r:=λ(x:Ω)=>sm 0/\sm (f x)
 let s:=ab 34 True
 let j:=([]:List (Option (Nat×Nat)))
 let t:=1=g.n
 let h:=g.qW
 let u:=λ(x:Int)=>decide (x>=0)
 let k:=λ(x:Int)=>0+x.toNat
 let o:=λ(x y:Int)(w:Ω)=>bits BinOp.or IntKind.u64 (U (x*4294967296)) (U (w.getD y.toNat 0))
 let v:=λ(x y:Ω)(w m A:Int)=>ah g (c x) λz=>af (decide (z=k w)) (cE (g.enc (y.getD (k w) h)) 0 [SV.int .u32 (V (U ((o
  m w x).tdiv (U A))))]) (g.enc (y.getD z h))
 True/\(e a=e a/\(0:Int)<=e a/\e a<=(9223372036854775807:Int)/\(4:Int)*e a<=(281474976710656:Int))/\ab (3:Nat) ((sM a d (W (e a-(1:Int)))
  (0:Int) (p a)/\(q a/\d=d/\ab (4:Nat) (r a/\sm (0:Int)/\sm (W (e a-(1:Int)))/\s))/\j=j/\((f a=c a/\t/\∀i,i<f a->(0:Int)
  =(p a).getD i h/\True)/\True)/\True)/\∀(n b:Int)(l:Ω),sM a d n b l->True/\(u n=true->(0:Int)<=(32:Int)/\((0:Int)<=n/\n<
  e a)/\True/\U d≠(0:Int)/\U d≠(0:Int)/\((0:Int)<=n/\n< ↑(f a))/\k n<c a/\ru true/\True/\sM a d (W (n-(1:Int))) ((o b n a).tmod (U
  d)) (v a l n b d)/\(W (n-(1:Int))+(1:Int)).toNat<(n+(1:Int)).toNat/\(q a/\d=d/\ab (4:Nat) (r a/\sm ((o b n a).tmod (U d))/\sm (W (n
  -(1:Int)))/\s))/\j=j/\((c a=c a/\t/\∀i,i<c a->(if decide (i=k n)=true then V (U ((o b n a).tdiv (U d)))else l.getD i h)=(v a l
  n b d).getD i h/\True)/\True)/\True)/\(u n=false->True/\((0:Nat)+f a<=c a/\∀i,i<c a->true=true)/\True/\((f a=(vq a d).length
  /\∀i,i<f a->l.getD ((0:Nat)+i) h=(vq a d).getD i (0:Int)/\True)/\V b=nv a%d/\True)/\True)))=TN a d:=by kernel_rfl
theorem OL(a:Ω)(s:Int):(
 let k:=λ(x:Ω)=>x.length
 let c:=λ(x:Ω)=>(↑(k x):Int)
 let o:=λ(x:Ω)=>W (c x+1)
 let g:=i32
 let d:=λ(x:Ω)=>k x+1
 let u:=λ(m:Ω)=>ah g (d m) λx=>[SV.int .u32 0]
 let r:=sm 0
 let h:=λ(x:Ω)=>(o x).toNat
 let v:=λ(x:Ω)=>k x=k x/\∀i,i<k x->sm (x.getD i 0)/\True
 let w:=ab 26 True
 let q:=([]:List (Option (Nat×Nat)))
 let y:=1=g.n
 let e:=g.qW
 let z:=λ(x:Int)(m:Ω)=>0<=x/\x< ↑(h m)
 let f:=λ(x:Int)=>0+x.toNat
 let j:=λ(x:Int)=>W (x+1)
 let p:=λ(x:Int)=>0+(j x).toNat
 let t:=λ(x:Ω)(m s:Int)=>U (U (x.getD m.toNat 0)*2^min (U s).toNat 64)
 let A:=λ(x m:Ω)(s b:Int)=>cE (g.enc (x.getD (f s) e)) 0 [SV.int .u32 (bits BinOp.or IntKind.u32 (x.getD (f s) e) (V (t m s b)))]
 let B:=λ(x:Ω)(m s:Int)=>V (t x m s/4294967296)
 let C:=λ(x m:Ω)(s b:Int)=>ah g (d x) λD=>af (decide (D=p s)) (cE (af (decide (p s=f s)) (A m x s b) (g.enc (m.getD (p
  s) e))) 0 [SV.int .u32 (B x s b)]) (af (decide (D=f s)) (A m x s b) (g.enc (m.getD D e)))
 True/\(sm (o a)/\(0:Int)<=o a/\o a<=(9223372036854775807:Int)/\(4:Int)*o a<=(281474976710656:Int))/\ab (2:Nat) ((na a (0:Nat) s.toNat (0
  :Int) (u a)/\(True/\s=s/\ab (3:Nat) ((r/\sm (h a))/\ab (7:Nat) (v a/\c a=c a/\sm (0:Int)/\w)))/\q=q/\((h a=d a/\y/\∀i,i<
  h a->(0:Int)=(u a).getD i e/\True)/\True)/\True)/\∀(n:Int)(l:Ω),na a (0:Nat) s.toNat n l->True/\(decide (n<c a)=true->((0:Int)
  <=n/\n<c a)/\True/\(0:Int)<=U s/\True/\z n a/\f n<d a/\z n a/\f n<d a/\True/\(0:Int)<=(32:Int)/\((0:Int)<=j n/\j n< ↑(h a))/\p n<
  d a/\ab (2:Nat) (na a (0:Nat) s.toNat (j n) (C a l n s)/\(c a-j n).toNat<(c a-n).toNat/\(True/\s=s/\ab (3:Nat) ((r/\sm (h a))/\ab (7:
  Nat) (v a/\c a=c a/\sm (j n)/\w)))/\q=q/\((sm (d a)/\y/\∀i,i<d a->(if decide (i=p n)=true then B a n s else if decide (i=f n)=true
  then bits BinOp.or IntKind.u32 (l.getD (f n) e) (V (t a n s))else l.getD i e)=(C a l n s).getD i e/\True)/\True)/\True))/\(decide (n<c a)=false->True
  /\((r/\h a=(Lf a s).length/\(Lf a s).length<=d a)/\(∀i,i<(Lf a s).length->true=true/\l.getD i e=(Lf a s).getD i (0:Int)/\True)/\True)
  /\True)))=TF a s:=by kernel_rfl
theorem PV(a:Int)(b:Int):(
 let c:=ab 10 True
 let d:=λ(x:Int)=>decide (x>0)
 True/\(La a b a b/\(a=a/\b=b/\c)/\True)/\∀(n e:Int),La a b n e->True/\(d e=true->e≠0/\ru true/\La a b e (n.tmod e)/\(n.tmod
  e).toNat<e.toNat/\(e=e/\sm (n.tmod e)/\c)/\True)/\(d e=false->ab 2 (n= ↑(a.gcd b)/\True)))=Tz a b:=by kernel_rfl
theorem NK(z:Int):(
 let f:=sm (0:Int)
 let d:=λ(x:Int)=>(dz x).length
 let e:=λ(x:Int)=>sm (d x)/\∀i,i<d x->sm ((dz x).getD i 0)/\True
 let c:=λ(x:Int)=>(↑(d x):Int)
 let g:=ab 14 True
 let o:=λ(x:Int)(y:Nat)=>(aF IntKind.u32).enc ((dz x).getD y 0)
 let h:=λ(x:Int)=>List.map ar.shape [ar.s (SV.bool (decide (x<0))),ar.s (SV.bF 1 (d x) λi=>o x i)]
 let j:=λ(x:Int)=>h x=h x/\(sm (decide (x<0))/\e x/\True)/\True
 let k:=λ(x y u:Int)=>bits BinOp.or IntKind.u64 x (U (U ((dz y).getD u.toNat 0)*2^min (U (W (32*u))).toNat 64))
 ab 3 ((invA (dz z) 0 0/\ab 3 (f/\ab 3 (e z/\c z=c z/\f/\g))/\j z)/\∀(n b:Int),invA (dz z) n b->True/\(decide (n<c z)=true->(0<=n/\n
  <c z)/\True/\0<=U (W (32*n))/\ab 2 (invA (dz z) (W (n+1)) (k b z n)/\(c z-W (n+1)).toNat<(c z-n).toNat/\ab 3 (sm (k b z n)/\ab 3 (e z
  /\c z=c z/\sm (W (n+1))/\g))/\j z))/\(decide (n<c z)=false->ab 2 (b= ↑z.natAbs/\True))))=SE z:=by kernel_rfl
theorem AK{n:Int}(h:pq n):0<=n/\n<4294967296:=by unfold pq at h;exact h
theorem Ew{n:Nat}(h:n≠0):wL n=wL (n/2)+1:=by
 unfold wL;rw[JA h,Nat.log2_def]
 by_cases b:n>=2
 . rw[JB b,JA (by omega)]
 . rw[JA b,JB (by omega)]
theorem zZ{k n:Nat}(h:n/2^k≠0):wL n=k+wL (n/2^k):=by
 induction k generalizing n with
 |zero=>simp
 |succ k b=>
  have c:n≠0:=by intro e;subst e;simp at h
  have e:n/2^(k+1)=n/2/2^k:=by rw[Xi,Km,Nat.div_div_eq_div_mul]
  rw[e]at h⊢;rw[Ew c,b h];omega
theorem xJ{n k:Nat}(h:n<2^k):wL n<=k:=by
 unfold wL;split
 . omega
 . rename_i b;exact(Nat.log2_lt b).2 h
theorem HK{n k:Nat}(h:wL n<=k):n<2^k:=by
 unfold wL at h;split at h
 . rename_i b;subst b;exact Z4 (by omega)
 . rename_i b;exact(Nat.log2_lt b).1 h
theorem Nw:((List.range 256).all λi=>(QU.getD i 0).toNat==wL i)=true:=by kernel_rfl
theorem Mj{i:Nat}(h:i<256):(QU.getD i 0).toNat=wL i:=by
 have:=Js.1 Nw i (Kn.2 h);simpa using this
theorem My{n:Int}(b:0<=n)(h:n<4294967296):0<=bl n/\bl n<=32/\(1<=n->1<=bl n):=by
 unfold bl;have:=xJ (n:=n.natAbs) (k:=32) (by omega);refine⟨by omega,by omega,λc=>?_⟩;rw[Ew (by omega)];omega
theorem k157:aH prog Vq:=av XN hm func157 (by kernel_rfl) (by kernel_rfl) sV.ok (by kernel_rfl) (λ_=>[]) λa d=>by
 have h:SQ a:=by
  rw[<-M5];simp only[aA];generalize a=n at*
  try dsimp only at d
  obtain⟨j,r⟩:=AK d;obtain⟨m,rfl⟩:=Q8 j;have d1:((m:Int)/65536)=((m/65536:Nat):Int):=by omega
  have d2:((m/65536:Nat):Int)/256=((m/65536/256:Nat):Int):=by omega
  have d3:((m:Int)/256)=((m/256:Nat):Int):=by omega
  have o:bl (m:Int)=(wL m:Int):=by unfold bl;simp
  have b:∀i:Nat,i<256->IntKind.u8.wrap (i:Int)=i:=λi e=>by simp[IntKind.wrap,IntKind.bits,IntKind.signed];omega
  have fin:∀(k i:Nat),i<256->k<=24->wL m=k+wL i->W (k+W ((QU.getD i 0).toNat:Int))=bl (m:Int):=λk i e u p=>by
   rw[Mj e,o,p];have:=xJ (k:=8) (n:=i) (by omega);rw[aO (n:=(wL i:Int)) (by omega) (by omega),aO (by omega) (by omega)];omega
  simp[-List.getD_eq_getElem?_getD];rw[d1,d2,d3];refine⟨λq=>⟨λc=>?_,λc=>?_⟩,λq=>⟨λc=>?_,λc=>?_⟩⟩
  . rw[b _ (by omega),K7];exact⟨by omega,fin 24 _ (by omega) (by omega) (by rw[zZ (k:=16) (by omega),zZ (k:=8) (n:=m/2^16) (by omega)];simp;omega)⟩
  . rw[b _ (by omega),K7];exact⟨by omega,fin 16 _ (by omega) (by omega) (by rw[zZ (k:=16) (by omega)])⟩
  . rw[b _ (by omega),K7];exact⟨by omega,fin 8 _ (by omega) (by omega) (by rw[zZ (k:=8) (by omega)])⟩
  . rw[b _ (by omega),K7];have:=fin 0 m (by omega) (by omega) (by omega);simp only[Int.natCast_zero,Int.zero_add]at this;exact⟨by omega,this⟩
 exact h
theorem k400:aH prog VZ:=av k157 hm func400 (by kernel_rfl) (by kernel_rfl) sV.ok (by kernel_rfl) (λ_=>[]) λa b=>by
 have h:Sg a:=by
  rw[<-OI];simp only[aA];generalize a=n at*
  try dsimp only at b
  obtain⟨c,d⟩:=AK b;have:=My c d;simp[-List.getD_eq_getElem?_getD,b];rw[aO (by omega) (by omega)]
 exact h
theorem R8{a:Ω}{d:Int}(h:zO a d):br a/\1<=d/\d<4294967296:=by unfold zO at h;exact h
theorem yZ{u y:Int}{r:Nat}(e:0<=u)(b:u<2^r)(d:0<=y)(h:u+2^r*y<18446744073709551616):bits .or .u64 u (2^r*y)=u+2^r*y:=by
 have o:=two_pos r;have i:0<=(2:Int)^r*y:=Ja (by omega) d;obtain⟨u,rfl⟩:=Q8 e;obtain⟨y,rfl⟩:=Q8 d;have j:((2:Int)^r*(y:Int))=((2^r*y:Nat):Int):=by simp
 rw[j]at h⊢;have c:u<2^r:=by
  have:((u:Nat):Int)<((2^r:Nat):Int):=by simpa using b
  omega
 have k:bits .or .u64 (u:Int) ((2^r*y:Nat):Int)=IntKind.u64.wrap ((BitVec.ofInt 64 (u:Int)|||BitVec.ofInt 64 ((2^r*y:Nat):Int)).toNat:Int):=rfl;have m:(BitVec.ofInt 64 (u:Int)|||BitVec.ofInt 64 ((2^r*y:Nat):Int)).toNat=u+2^r*y:=by
  rw[BitVec.toNat_or,Xu,Xu];rw[show(((u:Int)%((2^64:Nat):Int)).toNat)=u by omega,show((((2^r*y:Nat):Int)%((2^64:Nat):Int)).toNat)=2^r*y by omega];rw[Nat.or_comm,<-Nat.two_pow_add_eq_or_of_lt c];omega
 rw[k,m,Su,ct (by omega) (by omega)];omega
theorem Bo(x y:Int):bits .or .u64 x y=bits .or .u64 y x:=by
 have e:∀x y:Int,bits .or .u64 x y=IntKind.u64.wrap ((BitVec.ofInt 64 x|||BitVec.ofInt 64 y).toNat:Int):=λ_ _=>rfl
 rw[e,e,BitVec.or_comm]
theorem drop_cons{a:Ω}{i:Nat}(b:i<a.length):a.drop i=a.getD i 0::a.drop (i+1):=by
 rw[Qa b,J0,J4 b];rfl
theorem Wd(a:Ω)(d:Int):sM a d (a.length-1) 0 (List.replicate a.length 0):=by
 unfold sM;rw[show((a.length:Int)-1+1).toNat=a.length by omega];refine⟨by omega,by omega,?_,?_⟩
 . simp[dg]
 . simp[nv]
theorem FN{a:Ω}{d i b:Int}{q:Ω}(h:sM a d i b q):q.length=a.length:=by
 unfold sM at h;obtain⟨c,e,rfl,j⟩:=h;simp;omega
theorem OD{a:Ω}{d i b:Int}{q:Ω}(h:sM a d i b q)(k:i<0):q=vq a d/\b=nv a%d:=by
 unfold sM at h;obtain⟨m,o,c,j⟩:=h;have e:i= -1:=by omega
 subst e;simp at c j;unfold vq;exact⟨c,j⟩
theorem RN{a:Ω}{d i b:Int}{q:Ω}(m:cO a)(u:1<=d)(w:d<4294967296)(h:sM a d i b q)(x:0<=i):
 GD (a.getD i.toNat 0)/\0<=b/\b<d/\b*4294967296+a.getD i.toNat 0<4294967296*d/\sM a d (i-1) ((b*4294967296+a.getD i.toNat 0)%d) (q.set i.toNat ((b*4294967296+a.getD i.toNat 0)/d)):=by
 unfold sM at h⊢;obtain⟨y,z,j,c⟩:=h;have o:=bH m i.toNat;rw[show(i+1).toNat=i.toNat+1 by omega]at j c;rw[show(i-1+1).toNat=i.toNat by omega];have p:0<=b:=by rw[c];exact Jm _ (by omega)
 have r:b<d:=by rw[c];exact Jo _ (by omega)
 have k:b*4294967296+a.getD i.toNat 0<4294967296*d:=by omega
 have e:nv (a.drop i.toNat)=(b*4294967296+a.getD i.toNat 0)+d*(4294967296*(nv (a.drop (i.toNat+1))/d)):=by
  rw[drop_cons (by omega),nv];have:=Int.emod_add_mul_ediv (nv (a.drop (i.toNat+1))) d;rw[<-c]at this;rw[X7];omega
 have A:(b*4294967296+a.getD i.toNat 0)/d<4294967296:=(Kl (by omega)).2 k;have B:0<=(b*4294967296+a.getD i.toNat 0)/d:=Kb (by omega) (by omega);refine⟨o,p,r,k,by omega,by omega,?_,?_⟩
 . rw[e,X3 _ _ (by omega),show a.length-i.toNat=(a.length-(i.toNat+1))+1 by omega,dg];rw[j,List.replicate_succ',Jq,Xj,cG (by simp)]
   congr 2
   . omega
   . congr 1;omega
 . rw[e,Yg]
theorem k399:aH prog WD:=av k400 hm func399 (by kernel_rfl) (by kernel_rfl) sLV.ok (by kernel_rfl) (λa=>a399 a.1 a.2) λa k=>by
 have h:TN a.1 a.2:=by
  rw[<-MB];simp only[aA];obtain⟨a,d⟩:=a
  try dsimp only at k
  obtain⟨m,d1,d2⟩:=R8 k;have B:=nz m;have p:=qv m;simp[-List.getD_eq_getElem?_getD];refine⟨by omega,⟨?_,λi j=>(gR _ _).symm⟩,λi rest q b=>⟨λj=>?_,λj=>?_⟩⟩
  . rw[aO (by omega) (by omega)];exact Wd a d
  . obtain⟨C,D,E,w,F⟩:=RN p d1 d2 b j;have c:=FN b;have x:i<a.length:=by unfold sM at b;exact b.2.1
    rw[aO (n:=i-1) (by omega) (by omega),ct (n:=d) (by omega) (by omega),ct (n:=a.getD i.toNat 0) (by omega) (by omega),ct (n:=rest*4294967296) (by omega) (by omega)];have e:bits BinOp.or IntKind.u64 (rest*4294967296) (a.getD i.toNat 0)=rest*4294967296+a.getD i.toNat 0:=by
     have:=yZ (u:=a.getD i.toNat 0) (y:=rest) (r:=32) (by omega) (by omega) (by omega) (by omega);rw[show(2:Int)^32=4294967296 from rfl]at this;rw[Bo,J6,this];omega
    rw[e,Ky (by omega),X9 (by omega)];have o:0<=(rest*4294967296+a.getD i.toNat 0)/d:=Kb (by omega) (by omega);have z:(rest*4294967296+a.getD i.toNat 0)/d<4294967296:=(Kl (by omega)).2 w;rw[ct o (by omega),Aj o z,tv c.symm]
    and_intros<;>first|omega|assumption|exact λi j=>(bo (by omega)).symm
  . have e:=OD b j;rw[<-e.1,e.2];have c:=FN b;have A:=Jm (nv a) (show d≠0 by omega);have G:=Jo (nv a) (show 0<d by omega);exact⟨⟨c.symm,λ_ _=>rfl⟩,Aj A (by omega)⟩
 exact h
theorem PQ{a:Ω}{s:Int}(h:Ad a s):br a/\0<=s/\s<32:=by unfold Ad at h;exact h
theorem k401:aH prog Wl:=av k399 hm func401 (by kernel_rfl) (by kernel_rfl) sLI.ok (by kernel_rfl) (λa=>a401 a.1 a.2) λa m=>by
 have h:TF a.1 a.2:=by
  rw[<-OL];simp only[aA];obtain⟨a,s⟩:=a
  try dsimp only at m
  obtain⟨o,p,q⟩:=PQ m;have y:=nz o;have u:=qv o;have r:=Px a 0 s.toNat;simp[-List.getD_eq_getElem?_getD];simp only[Jv]at r;rw[aO (n:=(a.length:Int)+1) (by omega) (by omega)];refine⟨by omega,⟨r,by omega,λi k=>(gR _ _).symm⟩,λi l b=>⟨λk=>?_,λk=>?_⟩⟩
  . have w:0<=i:=by unfold na at b;exact b.1
    have d:=tQ b;rw[aO (n:=i+1) (by omega) (by omega),ct (n:=s) (by omega) (by omega)];obtain⟨p,q,x,c⟩:=Ba u (by omega) b k;simp only[Int.natCast_zero,X6]at c;rw[Qn (by omega),ct (n:=a.getD i.toNat 0) p.1 (by omega),ct (n:=a.getD i.toNat 0*2^s.toNat) q x];rw[Vn (by omega)]
    and_intros<;>first|omega|assumption|skip
    intro j z;rw[bo (by simp;omega)]
    congr 1
    rw[bo (by omega)]
  . have e:=FT b k;have:Lf a s=l:=by rw[e];unfold Lf;simp
    rw[this];have d:=tQ b;exact⟨by omega,λ_ _=>rfl⟩
 exact h
theorem k392:aH prog Vk:=av k401 hm func392 (by kernel_rfl) (by kernel_rfl) sUU.ok (by kernel_rfl) (λa=>Zx a.1 a.2) λa d=>by
 have h:Tz a.1 a.2:=by
  rw[<-PV];simp only[aA];obtain⟨a,b⟩:=a
  try dsimp only at d
  have q:=GM d.1;have r:=GM d.2;simp[-List.getD_eq_getElem?_getD];unfold La;refine⟨by omega,λx y c=>⟨λk=>?_,λk=>?_⟩⟩
  . obtain⟨e,i,o,m,j⟩:=c;rw[X9 e];have p:=Jm x (show y≠0 by omega);have u:=Jo x k;refine⟨by omega,⟨i,p,m,by omega,?_⟩,by omega⟩;rw[<-j];obtain⟨x,rfl⟩:=Q8 e;obtain⟨y,rfl⟩:=Q8 i;rw[<-Int.natCast_emod,Yh,Yh,Nat.gcd_comm x y,Nat.gcd_rec y x,Nat.gcd_comm]
  . obtain⟨e,i,o,m,j⟩:=c;have:y=0:=by omega
    subst this;rw[<-j,Z9];omega
 exact h
theorem QC{z:Int}(h:wz z):(dz z).length<=2:=by unfold wz at h;exact h
theorem k393:aH prog UZ:=av k392 hm func393 (by kernel_rfl) (by kernel_rfl) sZ.ok (by kernel_rfl) (λa=>a393 a) λa k=>by
 have h:SE a:=by
  rw[<-NK];simp only[aA];generalize a=z at*
  try dsimp only at k
  have u:=QC k;have m:=(bI z).1;simp[-List.getD_eq_getElem?_getD];unfold invA;refine⟨by simp[nv],λi n b=>⟨λo=>?_,λo=>?_⟩⟩
  . obtain⟨p,q,c⟩:=b;have d:=bH m i.toNat;have j:=cm m i.toNat;have e:bits BinOp.or IntKind.u64 n (U (U ((dz z).getD i.toNat 0)*2^min (U (W (32*i))).toNat 64))=nv ((dz z).take (i+1).toNat):=by
     rw[aO (n:=32*i) (by omega) (by omega),ct (n:=32*i) (by omega) (by omega),ct (n:=(dz z).getD i.toNat 0) (by omega) (by omega),show(i+1).toNat=i.toNat+1 by omega,fv,<-c,show min (32*i).toNat 64=32*i.toNat by omega,fE];rw[fE]at j;have w:(dz z).getD i.toNat 0*2^(32*i.toNat)+n<18446744073709551616:=by
      have:i.toNat=0\/i.toNat=1:=by omega
      rcases this with e|e
      . rw[e]at j d c⊢;simp[-List.getD_eq_getElem?_getD,nv]at j d c⊢;omega
      . rw[e]at j d c⊢;simp[-List.getD_eq_getElem?_getD]at j d c⊢;omega
     have r:0<=(dz z).getD i.toNat 0*2^(32*i.toNat):=Ja d.1 (by have:=two_pos (32*i.toNat);omega);rw[ct r (by omega),J6,yZ (by omega) (by omega) d.1 (by rw[J6];omega)]
    rw[e,aO (n:=i+1) (by omega) (by omega)];refine⟨by omega,?_,⟨by omega,by omega,rfl⟩,by omega⟩;rw[aO (by omega) (by omega),ct (by omega) (by omega)];omega
  . obtain⟨p,q,c⟩:=b;rw[c,Jz (by omega),iB]
 exact h
end Go.Proofs.Big
