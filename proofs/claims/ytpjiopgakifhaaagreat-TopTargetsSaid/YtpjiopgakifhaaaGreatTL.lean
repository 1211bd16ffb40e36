import Derived.Test.YtpjiopgakifhaaaGreatTJ
import Derived.Test.YtpjiopgakifhaaaGreatTK
set_option linter.unusedSectionVars false
set_option linter.unusedSimpArgs false
set_option linter.unusedVariables false
set_option maxRecDepth 100000
namespace Go.Proofs.Big
open Go Go.Sx Go.Proofs
variable [bW]
attribute [local irreducible] lm nv tl dg dz
def T0 :=iR.cons Rx sI
def mU (l:List Int):Prop:=canon l/\l.length<=1000000
def di (n:Int):Prop:=0<=n/\n<=32000000
def rD (a b:List Int) (i:Int) (out:List Int):Prop:=0<=i/\i<=a.length/\out=dg (i.toNat+b.length) (nv (a.take i.toNat)*nv b)++List.replicate (a.length-i.toNat) 0
def zM (a b:List Int) (i k:Nat):Int:=nv (a.take i)*nv b+pw i*(a.getD i 0*nv (b.take k))
def rT (a b:List Int) (i k c:Int) (out:List Int):Prop:=0<=i/\i<a.length/\0<=k/\k<=b.length/\
 out=dg (i.toNat+k.toNat) (zM a b i.toNat k.toNat)++(dg (b.length-k.toNat) (nv (a.take i.toNat)*nv b/pw (i.toNat+k.toNat))++List.replicate (a.length-i.toNat) 0)/\
 c=zM a b i.toNat k.toNat/pw (i.toNat+k.toNat)-nv (a.take i.toNat)*nv b/pw (i.toNat+k.toNat)
def na (l:List Int) (w r:Nat) (i:Int) (out:List Int):Prop:=0<=i/\i<=l.length/\out=List.replicate w 0++(dg (i.toNat+1) (nv (l.take i.toNat)*2^r)++List.replicate (l.length-i.toNat) 0)
attribute [irreducible] mU di rD zM rT na
def c360 :bB:=fl Ta.dec (fun a=>mU a.2.1/\mU a.2.2.2) (fun a=>zS (zv a.1 a.2.1+zv a.2.2.1 a.2.2.2))
def UP :List (Nat×bB):=(360,c360)::VM
def SP (b:Bool) (l:List Int) (c:Bool) (m:List Int):Prop:=fQ VM Tryz.f360 [] [.bool b,lS l, .bool c,lS m] (zS (zv b l+zv c m))
def c304 :bB:=fl DK.dec (fun a=>fit a.1/\fit a.2) (fun a=>zS (a.1+a.2))
def UT :List (Nat×bB):=(304,c304)::UP
def TG (x:Int) (y:Int):Prop:=fQ UP Tryz.f304 [] [zS x,zS y] (zS (x+y))
def c364 :bB:=fl DK.dec (fun a=>fit a.1/\fit a.2) (fun a=>zS (a.1-a.2))
def Vp :List (Nat×bB):=(364,c364)::UT
def Ts (x:Int) (y:Int):Prop:=fQ UT Tryz.f364 [] [zS x,zS y] (zS (x-y))
def c302 :bB:=fl DK.dec (fun a=>fit a.1/\fit a.2) (fun a=>iS (aW (a.1-a.2)))
def UH :List (Nat×bB):=(302,c302)::Vp
def Tc (x:Int) (y:Int):Prop:=fQ Vp Tryz.f302 [] [zS x,zS y] (iS (aW (x-y)))
def c305 :bB:=fl DK.dec (fun a=>fit a.1/\fit a.2) (fun a=>zS (a.1*a.2))
def W4 :List (Nat×bB):=(305,c305)::UH
def ZY (x:Int) (y:Int):List kM:=[⟨.unit, .list [.int .i64 (.tm 43), .iQ i32 ((dz x).length+(dz y).length) 3 0],fun _ (s:Int×List Int)=>rD (dz x) (dz y) s.1 s.2,fun _ (s:Int×List Int)=>((dz x).length-s.1).toNat⟩,⟨.int .i64 (.tm 43), .list [.int .i64 (.tm 50), .int .u64 (.tm 12), .iQ i32 ((dz x).length+(dz y).length) 3 0],fun(i:Int) (s:Int×Int×List Int)=>rT (dz x) (dz y) i s.1 s.2.1 s.2.2,fun(i:Int) (s:Int×Int×List Int)=>((dz y).length-s.1).toNat⟩]
def TD (x:Int) (y:Int):Prop:=fQ UH Tryz.f305 (ZY x y) [zS x,zS y] (zS (x*y))
def c303 :bB:=fl T0.dec (fun a=>fit a.1/\di a.2) (fun a=>zS (a.1*2^a.2.toNat))
def WV :List (Nat×bB):=(303,c303)::W4
def aaf (z:Int) (n:Int):List kM:=[⟨.unit, .list [.int .i64 (.tm 35), .iQ i32 ((dz z).length+n.toNat/32+1) 2 0],fun _ (s:Int×List Int)=>na (dz z) (n.toNat/32) (n.toNat%32) s.1 s.2,fun _ (s:Int×List Int)=>((dz z).length-s.1).toNat⟩]
def Tu (z:Int) (n:Int):Prop:=fQ W4 Tryz.f303 (aaf z n) [zS z,iS n] (zS (z*2^n.toNat))
theorem Lw (b:Bool) (l:List Int) (c:Bool) (m:List Int):(
 let r:=fun(y m:Bool)=>y==m
 let k:=true=true/\True
 let e:=fun(y:List Int)=> ∀(i:Nat),i<y.length->k
 let f:=aF IntKind.u32
 let v:=fun(y:List Int)=>fun i=>f.enc (y.getD i 0)
 let d:=fun(y:List Int)=>ah f y.length (v y)
 let w:=fun(y m:List Int) (x1:Nat)=>f.enc ((cf (d y) (d m)).getD x1 0)
 let h:=fun(y m:List Int)=>ah f (cf (d y) (d m)).length fun i=>w y m i
 let o:=fun(y m:Bool) (x1 y1:List Int)=>decide (zv y x1+zv m y1<0)
 let p:=fun(y m:Bool) (x1 y1:List Int)=>(dz (zv y x1+zv m y1)).length
 let q:=fun(y m:Bool) (x1 y1:List Int) (u1:Nat)=>(dz (zv y x1+zv m y1)).getD u1 0
 let s:=fun(y m:List Int)=>decide (nU (d y) (d m)>=0)
 let t:=fun(y m:List Int)=>(e y/\e m)/\zL (d y) (d m)
 let x:=fun(y m:List Int) (x1:Nat)=>f.enc ((oh (d y) (d m)).getD x1 0)
 let g:=fun(y m:List Int)=>ah f (oh (d y) (d m)).length fun i=>x y m i
 let u:=fun(y m:List Int)=>(True/\ ∀(i:Nat),i<(oh (d y) (d m)).length->k)/\br (g y m)
 let j:=fun(y:Bool) (m x1:List Int)=>(dz (zv y (g m x1))).length
 ab 2 ((r b c=true->ab 2 (((e l/\e m)/\br (d l)/\br (d m))/\ab 2 (((True/\ ∀(i:Nat),i<(cf (d l) (d m)).length->k)/\br (h l m))/\ab 2 ((decide
  (zv b (h l m)<0)=o b c l m/\((dz (zv b (h l m))).length=p b c l m/\ ∀(i:Nat),i<(dz (zv b (h l m))).length->(dz (zv b (h l m))).getD i 0=q b c l m
  i/\True)/\True)/\True))))/\(r b c=false->ab 2 (((e l/\e m)/\pO (d l)/\pO (d m))/\True/\(s l m=true->ab 2 (t l m/\ab 2 (u l m/\ab 2 ((decide
  (zv b (g l m)<0)=o b c l m/\(j b l m=p b c l m/\ ∀(i:Nat),i<j b l m->(dz (zv b (g l m))).getD i 0=q b c l m i/\True)/\True)/\True))))/\(s l m
  =false->ab 2 (t m l/\ab 2 (u m l/\ab 2 ((decide (zv c (g m l)<0)=o b c l m/\(j c m l=p b c l m/\ ∀(i:Nat),i<j c m l->(dz (zv c (g m l))).getD
  i 0=q b c l m i/\True)/\True)/\True))))))))=SP b l c m:=by kernel_rfl
theorem OQ (x:Int) (y:Int):(
 let g:=fun(x:Int) (y:Nat)=>(aF IntKind.u32).enc ((dz x).getD y 0)
 let c:=fun(x:Int)=>aj.ak [SV.bool (decide (x<0)),SV.aI 1 (dz x).length fun i=>g x i]/\fit (zz x)
 let d:=fun(x:Int)=> ∀(i:Nat),i<(dz (zz x)).length->true=true/\True
 let h:=fun(x:Int) (y:Nat)=>(aF IntKind.u32).enc ((dz (zz x)).getD y 0)
 let e:=fun(x:Int)=>mU (ah (aF IntKind.u32) (dz (zz x)).length fun i=>h x i)
 let f:=fun(x y:Int)=>(dz (zz (zz x)+zz (zz y))).length
 ab 2 (c x/\ab 2 (c y/\ab 5 (((True/\d x/\True/\d y)/\e x/\e y)/\ab 2 ((decide (zz (zz x)+zz (zz y)<0)=decide (x+y<0)/\(f x y=(dz (x+y)).length
  /\ ∀(i:Nat),i<f x y->(dz (zz (zz x)+zz (zz y))).getD i 0=(dz (x+y)).getD i 0/\True)/\True)/\True)))))=TG x y:=by kernel_rfl
theorem OU (x:Int) (y:Int):(
 let g:=fun(x:Int) (y:Nat)=>(aF IntKind.u32).enc ((dz x).getD y 0)
 let e:=fun(x:Int)=>aj.ak [SV.bool (decide (x<0)),SV.aI 1 (dz x).length fun i=>g x i]/\fit (zz x)
 let f:=fun(x:Int)=> ∀(i:Nat),i<(dz (zz x)).length->true=true/\True
 let h:=fun(x:Int) (y:Nat)=>(aF IntKind.u32).enc ((dz (zz x)).getD y 0)
 let d:=fun(x:Int)=>ah (aF IntKind.u32) (dz (zz x)).length fun i=>h x i
 let c:=fun(x y:Int)=>zz (zz x)+zv (!decide (zz y<0)) (d y)
 ab 2 (e x/\ab 2 (e y/\ab 5 (((True/\f x/\True/\f y)/\mU (d x)/\mU (d y))/\ab 2 ((decide (c x y<0)=decide (x-y<0)/\((dz (c x y)).length=
  (dz (x-y)).length/\ ∀(i:Nat),i<(dz (c x y)).length->(dz (c x y)).getD i 0=(dz (x-y)).getD i 0/\True)/\True)/\True)))))=Ts x y:=by kernel_rfl
theorem PM (x:Int) (y:Int):(
 let k:=fun(x:Int) (y:Nat)=>(aF IntKind.u32).enc ((dz x).getD y 0)
 let e:=fun(x:Int)=>aj.ak [SV.bool (decide (x<0)),SV.aI 1 (dz x).length fun i=>k x i]/\fit (zz x)
 let c:=fun(x:Int)=>decide (zz x<0)
 let f:=fun(x:Int)=> ∀(i:Nat),i<(dz (zz x)).length->true=true/\True
 let o:=fun(x:Int) (y:Nat)=>(aF IntKind.u32).enc ((dz (zz x)).getD y 0)
 let d:=fun(x:Int)=>ah (aF IntKind.u32) (dz (zz x)).length fun i=>o x i
 let g:=fun(x y:Int)=>(f x/\f y)/\pO (d x)/\pO (d y)
 let h:=fun(x y:Int)=>(c x=true->ab 2 (g y x/\ab 2 (nU (d y) (d x)=aW (x-y)/\True)))/\(c x=false->ab 2 (g x y/\ab 2 (nU (d x) (d y)
  =aW (x-y)/\True)))
 let j:=fun(x y:Int)=>(c x=true->True/\((!c y)=true->ab 2 (1=aW (y-x)/\True))/\((!c y)=false->True/\h y x))/\(c x=false->ab 2 (h y
  x))
 ab 2 (e x/\ab 2 (e y/\True/\(c x=true->True/\((!c y)=true->ab 2 (-1=aW (x-y)/\True))/\((!c y)=false->j y x))/\(c x=false->True/\j y x))))=Tc x y:=by kernel_rfl
theorem LW (x:Int) (y:Int):(
 let q:=fun(x:Int)=>(dz x).length
 let d2:=fun(x:Int) (y:Nat)=>(aF IntKind.u32).enc ((dz x).getD y 0)
 let Q:=fun(x:Int)=>SV.aI 1 (q x) fun i=>d2 x i
 let w:=([]:List SV)
 let R:=fun(x:Int)=>aj.ak (SV.bool (decide (x<0))::Q x::w)/\fit (zz x)
 let K:=fun(x:Int)=>(dz (zz x)).length
 let d:=fun(x:Int)=>(↑(K x):Int)
 let z:=fun(x:Int)=>d x==0
 let T:=fun(x y:Int)=>(decide (x*y<0)=false/\(dz (x*y)).length=0/\True)/\True
 let u:=fun(x y:Int)=>W (d x+d y)
 let f:=i32
 let c:=fun(x y:Int)=>q x+q y
 let c0:=fun(y m:Int)=>ah f (c y m) fun x=>SV.int IntKind.u32 0::w
 let L:=fun(x:Int)=>decide (zz x<0)
 let h:=fun(x:Int)=>sm (L x)
 let g:=fun(x:Int)=>sm (K x)/\ ∀(i:Nat),i<K x->sm ((dz (zz x)).getD i 0)/\True
 let k:=fun(x y:Int)=>(u x y).toNat
 let A:=fun(x y:Int)=>sm 0/\sm (k x y)
 let r:=fun(x:Int)=>d x=d x
 let M:=sm (0:Int)
 let c1:=ab 50 True
 let B:=([]:List ar)
 let c2:=fun(x:Int)=>List.map ar.shape (ar.s (SV.bool (decide (x<0)))::ar.s (Q x)::B)
 let o:=fun(x:Int)=>c2 x=c2 x
 let p:=fun(x:Int)=>sm (decide (x<0))/\(sm (q x)/\ ∀(i:Nat),i<q x->sm ((dz x).getD i 0)/\True)/\True
 let c3:=List.map ar.shape (ar.s SV.ff::B++(ar.s SV.aq::B++B))
 let C:=c3=c3
 let D:=ab 2 True
 let c4:=([]:List (Option (Nat×Nat)))
 let E:=c4=c4
 let N:=f.n
 let O:=1=N
 let e:=f.qW
 let d3:=fun(x:List Int) (y:Nat)=>f.enc (x.getD y e)
 let F:=fun(x:List Int)=>fun j=>d3 x j
 let G:=fun(x y:Int)=>(dz (zz x)).getD y.toNat 0
 let c5:=ab 43 True
 let c6:=fun(x y m s:Int)=>0<=W (x+y)/\W (x+y)< ↑(k m s)
 let t:=fun(x y:Int)=>0+(W (x+y)).toNat
 let v:=fun(x:Int)=>W (x+1)
 let P:=fun(x y m s x1:Int) (y1:List Int)=>U (U (U (U (G x y)*U (G m s))+U (y1.getD (t y s) e))+x1)
 let c7:=fun(x y m s x1:Int) (y1:List Int)=>P x y m s x1 y1/4294967296
 let c8:=fun(x y m s x1:Int) (y1:List Int)=>ah f (c x y) fun i'=>af (decide (i'=t m s)) (cE (f.enc (y1.getD (t m s) e)) 0 (SV.int IntKind.u32
  (V (P x m y s x1 y1))::w)) (F y1 i')
 let c9:=fun(x y:Int)=>(↑(q x)-v y).toNat<(↑(q x)-y).toNat
 let H:=fun(x y:Int)=>0+(W (x+d y)).toNat
 let d0:=fun(x y m s:Int) (x1:List Int)=>ah f (c x y) fun i'=>af (decide (i'=H m y)) (cE (f.enc (x1.getD (H m y) e)) 0 (SV.int IntKind.u32 (V
  s)::w)) (F x1 i')
 let d4:=fun(x:List Int) (y:Nat)=>f.enc (x.getD (0+y) e)
 let d1:=fun(x y:Int) (m:List Int)=>ah (aF IntKind.u32) (k x y) fun i=>d4 m i
 let J:=fun(x y:Int) (m:List Int)=>zv (!L x==L y) (d1 x y m)
 ab (2:Nat) (R x/\ab (2:Nat) (R y/\True/\(z x=true->ab (3:Nat) (T x y))/\(z x=false->True/\(z y=true->ab (2:Nat) (T x y))/\(z y=false
  ->(sm (u x y)/\(0:Int)<=u x y/\u x y<=(9223372036854775807:Int)/\(4:Int)*u x y<=(281474976710656:Int))/\ab (2:Nat) ((rD (dz x) (dz y) (0:
  Int) (c0 x y)/\ab (5:Nat) (h x/\True/\h y/\g y/\A x y/\ab (31:Nat) (g x/\r x/\M/\c1))/\o x/\p x/\o y/\p y/\C/\D/\E/\((k x y=c x y/\O/\
  ∀(i:Nat),i<k x y->(0:Int)=(c0 x y).getD i e/\True)/\True)/\True)/\ ∀(n:Int) (l:List Int),rD (dz x) (dz y) n l->True/\(decide (n<d x)=
  true->((0:Int)<=n/\n<d x)/\ab (3:Nat) ((rT (dz x) (dz y) n (0:Int) (0:Int) (ah f (c x y) (F l))/\ab (5:Nat) (h x/\True/\h y/\g y/\A x
  y/\n=n/\sm (G x n)/\M/\ab (28:Nat) (g x/\r x/\n=n/\ab (4:Nat) (g y/\r y/\M/\c5)))/\o x/\p x/\o y/\p y/\C/\D/\E/\((sm (c x y)/\N=N
  /\ ∀(i:Nat),i<c x y->l.getD i e=(ah f (c x y) (F l)).getD i e/\True)/\True)/\True)/\ ∀(n_1 n_2:Int) (l:List Int),rT (dz x) (dz y) n n_1 n_2
  l->True/\(decide (n_1<d y)=true->((0:Int)<=n_1/\n_1<d y)/\True/\c6 n n_1 x y/\t n n_1<c x y/\True/\(0:Int)<=(32:Int)/\c6 n n_1 x y/\t
  n n_1<c x y/\ab (2:Nat) (rT (dz x) (dz y) n (v n_1) (c7 x n y n_1 n_2 l) (c8 x y n n_1 n_2 l)/\c9 y n_1/\ab (5:Nat) (h x/\True/\h y/\g y/\A x y
  /\n=n/\sm (G x n)/\sm (c7 x n y n_1 n_2 l)/\ab (28:Nat) (g x/\r x/\n=n/\ab (4:Nat) (g y/\r y/\sm (v n_1)/\c5)))/\o x/\p x/\o y/\p y/\C/\
  D/\E/\((sm (c x y)/\O/\ ∀(i:Nat),i<c x y->(if decide (i=t n n_1)=true then V (P x n y n_1 n_2 l)else l.getD i e)=(c8 x y n n_1 n_2 l).getD i e/\
  True)/\True)/\True))/\(decide (n_1<d y)=false->((0:Int)<=W (n+d y)/\W (n+d y)< ↑(k x y))/\H n y<c x y/\ab (2:Nat) (rD (dz x) (dz y) (v
  n) (d0 x y n n_2 l)/\c9 x n/\ab (5:Nat) (h x/\True/\h y/\g y/\A x y/\ab (31:Nat) (g x/\r x/\sm (v n)/\c1))/\o x/\p x/\o y/\p y/\C/\D/\E/\
  ((sm (c x y)/\O/\ ∀(i:Nat),i<c x y->(if decide (i=H n y)=true then V n_2 else l.getD i e)=(d0 x y n n_2 l).getD i e/\True)/\True)/\True))))/\(decide
  (n<d x)=false->True/\((0:Nat)+k x y<=c x y/\ ∀(i:Nat),i<c x y->true=true)/\((True/\ ∀(i:Nat),i<k x y->true=true/\True)/\br (d1
  x y l))/\ab (2:Nat) ((decide (J x y l<(0:Int))=decide (x*y<(0:Int))/\((dz (J x y l)).length=(dz (x*y)).length/\ ∀(i:Nat),i<(dz (J x y
  l)).length->(dz (J x y l)).getD i (0:Int)=(dz (x*y)).getD i (0:Int)/\True)/\True)/\True))))))))=TD x y:=by kernel_rfl
theorem L3 (z:Int) (n:Int):(
 let k:=fun(x:Int)=>(dz x).length
 let c5:=fun(x:Int) (m:Nat)=>(aF IntKind.u32).enc ((dz x).getD m 0)
 let G:=fun(x:Int)=>SV.aI 1 (k x) fun i=>c5 x i
 let r:=([]:List SV)
 let B:=fun(x:Int)=>(dz (zz x)).length
 let d:=fun(x:Int)=>(↑(B x):Int)
 let H:=fun(x:Int)=>d x==0
 let o:=fun(x m:Int)=>x*2^m.toNat
 let J:=(32:Int)≠(0:Int)
 let h:=fun(x:Int)=>W (x.tdiv 32)
 let p:=fun(x m:Int)=>W (W (d x+h m)+1)
 let t:=fun(x:Int)=>x.toNat/32
 let C:=fun(x:Int)=>x.toNat%32
 let e:=i32
 let c:=fun(x m:Int)=>k x+t m+1
 let K:=fun(m s:Int)=>ah e (c m s) fun x=>SV.int IntKind.u32 0::r
 let L:=fun(x:Int)=>sm (decide (zz x<0))
 let u:=fun(x:Int)=>U (x.tmod 32)
 let f:=fun(x m:Int)=>(p x m).toNat
 let M:=fun(x m:Int)=>sm 0/\sm (f x m)
 let N:=fun(x:Int)=>sm (B x)/\ ∀(i:Nat),i<B x->sm ((dz (zz x)).getD i 0)/\True
 let O:=ab 31 True
 let v:=([]:List ar)
 let w:=fun(x:Int)=>List.map ar.shape (ar.s (SV.bool (decide (x<0)))::ar.s (G x)::v)
 let P:=fun(x:Int)=>sm (decide (x<0))/\(sm (k x)/\ ∀(i:Nat),i<k x->sm ((dz x).getD i 0)/\True)/\True
 let y:=List.map ar.shape (ar.s SV.ff::v++(ar.s SV.aq::v++v))
 let Q:=ab 2 True
 let A:=([]:List (Option (Nat×Nat)))
 let R:=1=e.n
 let g:=e.qW
 let T:=fun(x m s:Int)=>0<=W (x+h m)/\W (x+h m)< ↑(f s m)
 let j:=fun(x m:Int)=>0+(W (x+h m)).toNat
 let D:=fun(x m:Int)=>W (W (x+h m)+1)
 let q:=fun(x m:Int)=>0+(D x m).toNat
 let c0:=fun(x m s:Int)=>U (U ((dz (zz x)).getD m.toNat 0)*2^min (u s).toNat 64)
 let c1:=fun(x:List Int) (m s x1:Int)=>bits BinOp.or IntKind.u32 (x.getD (j m s) g) (V (c0 x1 m s))
 let c2:=fun(x:List Int) (m s x1:Int)=>cE (e.enc (x.getD (j m s) g)) 0 (SV.int IntKind.u32 (c1 x m s x1)::r)
 let c3:=fun(x m s:Int)=>V (c0 x m s/4294967296)
 let c4:=fun(x m s:Int) (x1:List Int)=>ah e (c x m) fun i'=>af (decide (i'=q s m)) (cE (af (decide (q s m=j s m)) (c2 x1 s m x) (e.enc
  (x1.getD (q s m) g))) 0 (SV.int IntKind.u32 (c3 x s m)::r)) (af (decide (i'=j s m)) (c2 x1 s m x) (e.enc (x1.getD i' g)))
 let c6:=fun(x:List Int) (m:Nat)=>e.enc (x.getD (0+m) g)
 let E:=fun(x m:Int) (s:List Int)=>ah (aF IntKind.u32) (f x m) fun i=>c6 s i
 let F:=fun(x m:Int) (s:List Int)=>dz (zv (decide (zz x<0)) (E x m s))
 ab (2:Nat) ((aj.ak (SV.bool (decide (z<(0:Int)))::G z::r)/\fit (zz z))/\ab (2:Nat) ((H z=true->ab (2:Nat) ((decide (o z n<(0:Int))
  =false/\(dz (o z n)).length=(0:Nat)/\True)/\True))/\(H z=false->J/\J/\True/\(sm (p z n)/\(0:Int)<=p z n/\p z n<=(9223372036854775807:Int)
  /\(4:Int)*p z n<=(281474976710656:Int))/\ab (2:Nat) ((na (dz z) (t n) (C n) (0:Int) (K z n)/\ab (5:Nat) (L z/\True/\sm (h n)/\sm (u n)/\M
  z n/\ab (23:Nat) (N z/\d z=d z/\sm (0:Int)/\O))/\w z=w z/\P z/\y=y/\Q/\A=A/\((f z n=c z n/\R/\ ∀(i:Nat),i<f z n->(0:Int)=(K
  z n).getD i g/\True)/\True)/\True)/\ ∀(n_1:Int) (l:List Int),na (dz z) (t n) (C n) n_1 l->True/\(decide (n_1<d z)=true->((0:Int)<=n_1/\n_1
  <d z)/\True/\(0:Int)<=u n/\True/\T n_1 n z/\j n_1 n<c z n/\T n_1 n z/\j n_1 n<c z n/\True/\(0:Int)<=(32:Int)/\((0:Int)<=D n_1 n/\D n_1
  n< ↑(f z n))/\q n_1 n<c z n/\ab (2:Nat) (na (dz z) (t n) (C n) (W (n_1+(1:Int))) (c4 z n n_1 l)/\(↑(k z)-W (n_1+(1:Int))).toNat<(↑(k z)-
  n_1).toNat/\ab (5:Nat) (L z/\True/\sm (h n)/\sm (u n)/\M z n/\ab (23:Nat) (N z/\d z=d z/\sm (W (n_1+(1:Int)))/\O))/\w z=w z/\P z/\y=y
  /\Q/\A=A/\((sm (c z n)/\R/\ ∀(i:Nat),i<c z n->(if decide (i=q n_1 n)=true then c3 z n_1 n else if decide (i=j n_1 n)=true then c1 l n_1 n z else
  l.getD i g)=(c4 z n n_1 l).getD i g/\True)/\True)/\True))/\(decide (n_1<d z)=false->True/\((0:Nat)+f z n<=c z n/\ ∀(i:Nat),i<c z n->true
  =true)/\((True/\ ∀(i:Nat),i<f z n->true=true/\True)/\br (E z n l))/\ab (2:Nat) ((decide (zv (decide (zz z<(0:Int))) (E z n l)<(0:Int))
  =decide (o z n<(0:Int))/\((F z n l).length=(dz (o z n)).length/\ ∀(i:Nat),i<(F z n l).length->(F z n l).getD i (0:Int)=(dz (o z n)).getD i (0
  :Int)/\True)/\True)/\True)))))))=Tu z n:=by kernel_rfl
theorem jV {l:List Int} (h:mU l):canon l:=by unfold mU at h;exact h.1
theorem iC {l:List Int} (h:mU l):l.length<=1000000:=by unfold mU at h;exact h.2
theorem CL {l:List Int} (h:mU l):pO l:=Ph (jV h) (by have:=iC h;omega)
theorem sX {l:List Int} (h:mU l):br l:=ER (jV h).1 (by have:=iC h;omega)
theorem dzS {z:Int} (h:fit z):mU (dz z):=by unfold mU;exact⟨bI z,dm h⟩
theorem OF (a b:List Int):cO (cf a b):=by unfold cf;exact mo _ _
theorem UJ (a b:List Int):cO (oh a b):=by unfold oh;exact mo _ _
theorem Mf {a b:List Int} (ha:cO a) (hb:cO b):nv (cf a b)=nv a+nv b:=by
 unfold cf;have h1:=fV ha;have h2:=fV hb;have h3:=gT (Nat.le_max_left a.length b.length);have h4:=gT (Nat.le_max_right a.length b.length);exact wc (by omega) (by rw [bD];omega)
theorem Nl {a b:List Int} (ha:cO a) (hb:cO b) (h:nv b<=nv a):nv (oh a b)=nv a-nv b:=by
 unfold oh;have h1:=fV ha;have h2:=fV hb;exact wc (by omega) (by omega)
theorem mW {a b:List Int}:(0<=nU a b)↔nv b<=nv a:=by
 unfold nU aW;split
 . omega
 . split<;>omega
theorem LU {a b:List Int} (ha:mU a) (hb:mU b) (h:nv b<=nv a):zL a b:=by
 unfold zL;refine⟨sX ha,sX hb,?_,h⟩;rcases Kv a.length b.length with h1|h1
 . have:=w9 (jV ha) (jV hb) h1;omega
 . exact h1
theorem k360 :aH Tryz.prog UP:=av k390 hm Tryz.func360 (by kernel_rfl) (by kernel_rfl) Ta.ok (by kernel_rfl) (fun _=>[]) fun a hp=>by
 have h:SP a.1 a.2.1 a.2.2.1 a.2.2.2:=by
  rw [<-Lw];simp only [aA];obtain⟨b,l,c,m⟩:=a
  try dsimp only at hp
  have h1:=iC hp.1;have h2:=iC hp.2;have d1:=(jV hp.1).1;have d2:=(jV hp.2).1;have fA:br (cf l m):=ER (OF _ _) (by rw [zD];omega);have fS: ∀x y:List Int,x.length<=1000000->br (oh x y):=fun x y h=>ER (UJ _ _) (by rw [Fh];omega)
  simp [-List.getD_eq_getElem?_getD,hp,sX hp.1,sX hp.2,CL hp.1,CL hp.2,fA,mW];refine⟨fun e=> ?_,fun e=>⟨fun hle=> ?_,fun hlt=> ?_⟩⟩
  . subst e;have:zv b (cf l m)=zv b l+zv b m:=by unfold zv;rw [Mf d1 d2];split<;>omega
    rw [this];simp
  . have:zv b (oh l m)=zv b l+zv c m:=by unfold zv;rw [Nl d1 d2 hle];cases b<;>cases c<;>simp at e⊢ <;>omega
    rw [this];simp [LU hp.1 hp.2 hle,fS _ _ h1]
  . have hle:nv l<=nv m:=by
     rcases Qe (nv l) (nv m)with h|h
     . omega
     . exact absurd (mW.2 h) (by omega)
    have:zv c (oh m l)=zv b l+zv c m:=by unfold zv;rw [Nl d2 d1 hle];cases b<;>cases c<;>simp at e⊢ <;>omega
    rw [this];simp [LU hp.2 hp.1 hle,fS _ _ h2]
 exact h
theorem k304 :aH Tryz.prog UT:=av k360 hm Tryz.func304 (by kernel_rfl) (by kernel_rfl) DK.ok (by kernel_rfl) (fun _=>[]) fun a hp=>by
 have h:TG a.1 a.2:=by
  rw [<-OQ];simp only [aA];obtain⟨x,y⟩:=a
  try dsimp only at hp
  simp [-List.getD_eq_getElem?_getD,hp,dzS hp.1,dzS hp.2]
 exact h
theorem k364 :aH Tryz.prog Vp:=av k304 hm Tryz.func364 (by kernel_rfl) (by kernel_rfl) DK.ok (by kernel_rfl) (fun _=>[]) fun a hp=>by
 have h:Ts a.1 a.2:=by
  rw [<-OU];simp only [aA];obtain⟨x,y⟩:=a
  try dsimp only at hp
  simp [-List.getD_eq_getElem?_getD,hp,dzS hp.1,dzS hp.2,Int.sub_eq_add_neg]
 exact h
theorem gH {a:Int} (h:a<0):aW a= -1:=by unfold aW;rw [if_pos h]
theorem jj {a:Int} (h:0<a):aW a=1:=by unfold aW;rw [if_neg (by omega),if_neg (by omega)]
theorem gV :aW 0=0:=by unfold aW;simp
theorem NN {a b:Int} (h1:a<0↔b<0) (h2:a=0↔b=0):aW a=aW b:=by unfold aW;simp only [h1,h2]
theorem ZT :aH Tryz.prog UH:=av k364 hm Tryz.func302 (by kernel_rfl) (by kernel_rfl) DK.ok (by kernel_rfl) (fun _=>[]) fun a hp=>by
 have h:Tc a.1 a.2:=by
  rw [<-PM];simp only [aA];obtain⟨x,y⟩:=a
  try dsimp only at hp
  simp [-List.getD_eq_getElem?_getD,hp,dzC hp.1,dzC hp.2];have q1:=iB x;have q2:=iB y
  repeat' first|intro _|apply And.intro
  all_goals first
   |omega
   |(rw [gH (by omega)])
   |(rw [jj (by omega)])
   |(unfold nU;refine NN ?_ ?_<;>omega)
 exact h
theorem kE {l:List Int} {N:Nat} (h:N=l.length):ah (aF .u32) N (fun j=>[SV.int .u32 (l.getD j 0)])=l:=by subst h;exact Te
theorem Ce (a b:Nat):List.replicate a (0:Int)++List.replicate b 0=List.replicate (a+b) 0:=by simp
theorem V3 (a b:List Int):rD a b 0 (List.replicate (a.length+b.length) 0):=by
 unfold rD;refine⟨by omega,by omega,?_⟩;simp only [Ql,Z8,nv,Int.zero_mul,CE];rw [Ce];congr 1;omega
theorem Fu {a b:List Int} {i:Int} {out:List Int} (h:rD a b i out):out.length=a.length+b.length:=by
 unfold rD at h;obtain⟨h1,h2,rfl⟩:=h;simp;omega
theorem FP {a b:List Int} {i k c:Int} {out:List Int} (h:rT a b i k c out):out.length=a.length+b.length:=by
 unfold rT at h;obtain⟨h1,h2,h3,h4,rfl,h5⟩:=h;simp;omega
theorem V6 {a b:List Int} {i:Int} {out:List Int} (h:rD a b i out) (hi:i<a.length):rT a b i 0 0 out:=by
 unfold rD at h;obtain⟨h1,h2,h3⟩:=h;unfold rT zM;simp only [Ql,Z8,nv,Int.mul_zero,X6,Jv,Xf,Int.sub_self];refine⟨h1,hi,by omega,by omega,?_,trivial⟩;rw [h3,G8,Jq]
theorem Ij (a b:List Int) (i k:Nat):zM a b i (k+1)=zM a b i k+pw (i+k)*(a.getD i 0*b.getD k 0):=by
 unfold zM;rw [fv,Kg,Kg,gG,X7 (a.getD i 0) (pw k),Jk (pw i) (pw k),Int.add_assoc]
theorem KB {a b:List Int} {i k c:Int} {out:List Int} (ha:cO a) (hb:cO b) (h:rT a b i k c out) (hk:k<b.length):
 0<=c/\c<=4294967295/\0<=out.getD (i+k).toNat 0/\out.getD (i+k).toNat 0<4294967296/\ ∀s,s=a.getD i.toNat 0*b.getD k.toNat 0+out.getD (i+k).toNat 0+c->rT a b i (k+1) (s/4294967296) (out.set (i+k).toNat (V s)):=by
 unfold rT at h⊢;obtain⟨h1,h2,h3,h4,h5,h6⟩:=h;have da:=bH ha i.toNat;have e0:(i+k).toNat=i.toNat+k.toNat:=by omega
 have e1:(k+1).toNat=k.toNat+1:=by omega
 rw [e0,e1];have hp:=aE (i.toNat+k.toNat);have hP:0<=nv (a.take i.toNat)*nv b:=Ja (cm ha _).1 (fV hb).1;have hbk:=cm hb k.toNat;have hz1:nv (a.take i.toNat)*nv b<=zM a b i.toNat k.toNat:=by
  unfold zM;have:0<=pw i.toNat*(a.getD i.toNat 0*nv (b.take k.toNat)):=Ja (by have:=aE i.toNat;omega) (Ja (by omega) (by omega));omega
 have hz2:zM a b i.toNat k.toNat<=nv (a.take i.toNat)*nv b+pw (i.toNat+k.toNat)*a.getD i.toNat 0:=by
  unfold zM;have:pw i.toNat*(a.getD i.toNat 0*nv (b.take k.toNat))<=pw i.toNat*(a.getD i.toNat 0*pw k.toNat):=Jt (Jt (by omega) (by omega)) (by have:=aE i.toNat;omega);rw [gG,Jk,J6 (pw k.toNat)];omega
 have hd1:=Int.ediv_le_ediv hp hz1;have hd2:=Int.ediv_le_ediv hp hz2;rw [nw]at hd2;have hQ:0<=nv (a.take i.toNat)*nv b/pw (i.toNat+k.toNat):=Kb hP (by omega);obtain⟨m,hm⟩: ∃m,b.length-k.toNat=m+1:=⟨b.length-k.toNat-1,by omega⟩;have hout:out=dg (i.toNat+k.toNat) (zM a b i.toNat k.toNat)++(nv (a.take i.toNat)*nv b/pw (i.toNat+k.toNat))%4294967296::(dg m (nv (a.take i.toNat)*nv b/pw (i.toNat+k.toNat)/4294967296)++List.replicate (a.length-i.toNat) 0):=by
  rw [h5,hm,dg];rfl
 have hget:out.getD (i.toNat+k.toNat) 0=(nv (a.take i.toNat)*nv b/pw (i.toNat+k.toNat))%4294967296:=by
  rw [hout,J0,Jy (by simp),mL,Nat.sub_self];rfl
 rw [hget];refine⟨by omega,by omega,by omega,by omega,fun s hs=>⟨h1,h2,by omega,by omega,?_,?_⟩⟩
 . rw [hout,cG (mL _ _),Ij,<-Nat.add_assoc,uL,show b.length-(k.toNat+1)=m by omega,cq];have:V s=(zM a b i.toNat k.toNat/pw (i.toNat+k.toNat)+a.getD i.toNat 0*b.getD k.toNat 0)%4294967296:=by
    rw [iA,hs];omega
   rw [this,Jq];rfl
 . rw [Ij,<-Nat.add_assoc,lH,<-cq,hs];omega
theorem Nu {a b:List Int} (ha:cO a) (hb:cO b):0<=nv a*nv b/\nv a*nv b<pw (a.length+b.length):=by
 have h1:=fV ha;have h2:=fV hb;refine⟨Ja h1.1 h2.1,?_⟩;rw [gG];have h3:nv a*nv b<=nv a*pw b.length:=Jt (by omega) h1.1;have h4:nv a*pw b.length<pw a.length*pw b.length:=X8 h1.2 (aE _);omega
theorem O5 {a b:List Int} {i k c:Int} {out:List Int} (ha:cO a) (hb:cO b) (h:rT a b i k c out) (hk:(b.length:Int)<=k):rD a b (i+1) (out.set (i+b.length).toNat (V c)):=by
 unfold rT at h;obtain⟨h1,h2,h3,h4,h5,h6⟩:=h;have ek:k.toNat=b.length:=by omega
 rw [ek]at h5 h6;have hb:=Nu (mN ha i.toNat) hb;rw [Kj,Qn (by omega)]at hb;rw [Qq hb.1 hb.2,Int.sub_zero]at h6;unfold rD;refine⟨by omega,by omega,?_⟩;rw [h5,Nat.sub_self,dg,Jj,kO (by omega),show(i+(b.length:Int)).toNat=i.toNat+b.length by omega,cG (mL _ _),iA,h6];have e:nv (a.take (i+1).toNat)*nv b=zM a b i.toNat b.length:=by
  unfold zM;rw [show(i+1).toNat=i.toNat+1 by omega,fv,Qo,Jz (J1 _),Jk]
 rw [e,show(i+1).toNat+b.length=i.toNat+b.length+1 by omega,re,Jq,show a.length-(i+1).toNat=a.length-i.toNat-1 by omega];rfl
theorem LX {a b:List Int} {i:Int} {out:List Int} (h:rD a b i out) (hi:(a.length:Int)<=i):out=dg (a.length+b.length) (nv a*nv b):=by
 unfold rD at h;obtain⟨h1,h2,h3⟩:=h;have e:i.toNat=a.length:=by omega
 rw [h3,e,Jz (J1 _)];simp
theorem k305 :aH Tryz.prog W4:=av ZT hm Tryz.func305 (by kernel_rfl) (by kernel_rfl) DK.ok (by kernel_rfl) (fun a=>ZY a.1 a.2) fun a hp=>by
 have h:TD a.1 a.2:=by
  rw [<-LW];simp only [aA];obtain⟨x,y⟩:=a
  try dsimp only at hp
  have lx:=dm hp.1;have ly:=dm hp.2;have dx:=(bI x).1;have dy:=(bI y).1;simp [-List.getD_eq_getElem?_getD,hp];have ew:W (↑(dz x).length+ ↑(dz y).length)=((dz x).length+(dz y).length:Int):=aG (by omega) (by omega);rw [ew];refine⟨fun e=> ?_,fun ex=>⟨fun e=> ?_,fun ey=>⟨by omega,⟨V3 _ _,by omega,fun i hi=>(gR _ _).symm⟩,fun n l hinv=>⟨fun hn=> ?_,fun hn=> ?_⟩⟩⟩⟩
  . rw [(oz (z:=x)).1 (by rw [e];rfl)];simp [gz]
  . rw [(oz (z:=y)).1 (by rw [e];rfl)];simp [gz]
  . have hn0:0<=n:=by unfold rD at hinv;exact hinv.1
    have hlen:=Fu hinv;rw [kE hlen.symm];refine⟨⟨hn0,hn⟩,⟨V6 hinv hn,fun _ _=>rfl⟩,fun k c l' hinv'=>⟨fun hk=> ?_,fun hk=> ?_⟩⟩
    . have hk0:0<=k:=by unfold rT at hinv';exact hinv'.2.2.1
      have hlen':=FP hinv';have e1:W (n+k)=n+k:=aG (by omega) (by omega);have e2:W (k+1)=k+1:=aG (by omega) (by omega);rw [e1,e2];obtain⟨c1,c2,c3,c4,hstep⟩:=KB dx dy hinv' hk;have da:=bH dx n.toNat;have db:=bH dy k.toNat;have p0:0<=(dz x).getD n.toNat 0*(dz y).getD k.toNat 0:=Ja (by omega) (by omega);have p1:(dz x).getD n.toNat 0*(dz y).getD k.toNat 0<=4294967295*4294967295:=Qb (by omega) (by omega) (by omega) (by omega)
      rw [ct (n:=(dz x).getD n.toNat 0) (by omega) (by omega),ct (n:=(dz y).getD k.toNat 0) (by omega) (by omega),ct (n:=(dz x).getD n.toNat 0*(dz y).getD k.toNat 0) (by omega) (by omega),ct (n:=l'.getD (n+k).toNat 0) (by omega) (by omega),ct (n:=_+l'.getD (n+k).toNat 0) (by omega) (by omega),ct (by omega) (by omega),tv hlen'.symm];have:=hstep _ rfl
      and_intros<;>first|omega|assumption|exact fun i hi=>(bo (by omega)).symm
    . have hlen':=FP hinv';have e1:W (n+ ↑(dz y).length)=n+(dz y).length:=aG (by omega) (by omega);have e2:W (n+1)=n+1:=aG (by omega) (by omega);rw [e1,e2,tv hlen'.symm];have:=O5 dx dy hinv' hk
      and_intros<;>first|omega|assumption|exact fun i hi=>(bo (by omega)).symm
  . have hlen:=Fu hinv;have e:=LX hinv hn;rw [kE (by omega)];have hb:=Nu dx dy;have hv:nv l=(x.natAbs:Int)*(y.natAbs:Int):=by rw [e,wc hb.1 hb.2,iB,iB]
    have hz:zv (!decide (x<0)==decide (y<0)) l=x*y:=by
     unfold zv;rw [hv];rcases Z6 x with h1|h1<;>rcases Z6 y with h2|h2
     . have:(!decide (x<0)==decide (y<0))=false:=by simp;omega
       rw [this,<-h1,<-h2];simp
     . by_cases h0:y=0
       . subst h0;simp
       by_cases h3:x=0
       . subst h3;simp
       have:(!decide (x<0)==decide (y<0))=true:=by simp;omega
       rw [this,if_pos rfl,<-h1,<-Int.mul_neg,<-h2]
     . by_cases h0:x=0
       . subst h0;simp
       by_cases h3:y=0
       . subst h3;simp
       have:(!decide (x<0)==decide (y<0))=true:=by simp;omega
       rw [this,if_pos rfl,<-h2,<-Int.neg_mul,<-h1]
     . by_cases h0:x=0
       . subst h0;simp
       by_cases h3:y=0
       . subst h3;simp
       have:(!decide (x<0)==decide (y<0))=false:=by simp;omega
       rw [this,<-Int.neg_mul_neg,<-h1,<-h2];simp
    rw [hz];have hf:br l:=ER (by rw [e];exact mo _ _) (by omega);exact⟨by omega,hf,by simp⟩
 exact h
theorem two_pos (r:Nat):(0:Int)<2^r:=Int.pow_pos (by omega)
theorem Ch {n:Int} (h:di n):0<=n/\n<=32000000:=by unfold di at h;exact h
theorem HS {a b:Nat} (h:a<=b):(2:Int)^a<=2^b:=by
 obtain⟨c,rfl⟩:=Nat.le.dest h;rw [Int.pow_add];have h1:=two_pos a;have h2:=two_pos c;have:(2:Int)^a*1<=2^a*2^c:=Jt (by omega) (by omega);omega
theorem Mh {l:List Int} (h:cO l) {r:Nat} (hr:r<=32):nv l*2^r<pw (l.length+1):=by
 have h1:=fV h;have h2:=HS hr;have h3:=two_pos r;have h4:nv l*2^r<pw l.length*2^r:=X8 h1.2 h3;have h5:pw l.length*2^r<=pw l.length*2^32:=Jt h2 (by have:=aE l.length;omega);rw [bD];omega
theorem Px (l:List Int) (w r:Nat):na l w r 0 (List.replicate (l.length+w+1) 0):=by
 unfold na;refine⟨by omega,by omega,?_⟩;simp only [Ql,Z8,nv,Int.zero_mul,CE];rw [Ce,Ce];congr 1;omega
theorem tQ {l:List Int} {w r:Nat} {i:Int} {out:List Int} (h:na l w r i out):out.length=l.length+w+1:=by
 unfold na at h;obtain⟨h1,h2,rfl⟩:=h;simp;omega
theorem FT {l:List Int} {w r:Nat} {i:Int} {out:List Int} (h:na l w r i out) (hi:(l.length:Int)<=i):out=List.replicate w 0++dg (l.length+1) (nv l*2^r):=by
 unfold na at h;obtain⟨h1,h2,h3⟩:=h;have e:i.toNat=l.length:=by omega
 rw [h3,e,Jz (J1 _)];simp
theorem NS {u y:Int} {r:Nat} (hu:0<=u) (hu2:u<2^r) (hy:0<=y) (h:u+2^r*y<4294967296):bits .or .u32 u (2^r*y)=u+2^r*y:=by
 have hp:=two_pos r;have hy2:0<=(2:Int)^r*y:=Ja (by omega) hy;obtain⟨u,rfl⟩:=Q8 hu;obtain⟨y,rfl⟩:=Q8 hy;have e0:((2:Int)^r*(y:Int))=((2^r*y:Nat):Int):=by simp
 rw [e0]at h⊢;have hu3:u<2^r:=by
  have:((u:Nat):Int)<((2^r:Nat):Int):=by simpa using hu2
  omega
 have e1:bits .or .u32 (u:Int) ((2^r*y:Nat):Int)=IntKind.u32.wrap ((BitVec.ofInt 32 (u:Int)|||BitVec.ofInt 32 ((2^r*y:Nat):Int)).toNat:Int):=rfl;have e2:(BitVec.ofInt 32 (u:Int)|||BitVec.ofInt 32 ((2^r*y:Nat):Int)).toNat=u+2^r*y:=by
  rw [BitVec.toNat_or,Xu,Xu];rw [show(((u:Int)%((2^32:Nat):Int)).toNat)=u by omega,show((((2^r*y:Nat):Int)%((2^32:Nat):Int)).toNat)=2^r*y by omega];rw [Nat.or_comm,<-Nat.two_pow_add_eq_or_of_lt hu3];omega
 rw [e1,e2,T7,Aj (by omega) (by omega)];omega
theorem Vn {l:List Int} {i j:Nat} {u v:Int} {N:Nat} (hN:N=l.length):ah i32 N (fun i'=>af (decide (i'=j)) [SV.int .u32 v] (af (decide (i'=i)) [SV.int .u32 u] [SV.int .u32 (l.getD i' 0)]))=(l.set i u).set j v:=by
 refine kj (by simp [hN]) fun k hk=> ?_
 have h1:(aF IntKind.u32).dec (af (decide (k=i)) [SV.int .u32 u] [SV.int .u32 (l.getD k 0)])=some (if decide (k=i)=true then u else l.getD k 0):=(aF .u32).Aa _ _ _ _ _ ((aF .u32).self u) ((aF .u32).self _);have h2:=(aF .u32).Aa (decide (k=j)) _ _ _ _ ((aF .u32).self v) h1;rw [show(aF IntKind.u32).qW=0 from rfl,bo (by simp;omega),bo (by omega)];simpa using h2
theorem Ba {l:List Int} {w r:Nat} {i:Int} {out:List Int} (hl:cO l) (hr:r<32) (h:na l w r i out) (hi:i<l.length):
 GD (l.getD i.toNat 0)/\0<=l.getD i.toNat 0*2^r/\l.getD i.toNat 0*2^r<18446744073709551616/\
 na l w r (i+1) ((out.set (i+w).toNat (bits .or .u32 (out.getD (i+w).toNat 0) (V (l.getD i.toNat 0*2^r)))).set (i+w+1).toNat (V (l.getD i.toNat 0*2^r/4294967296))):=by
 unfold na at h⊢;obtain⟨h1,h2,h3⟩:=h;have dx:=bH hl i.toNat;have hz':nv (l.take (i.toNat+1))*2^r=nv (l.take i.toNat)*2^r+pw i.toNat*(l.getD i.toNat 0*2^r):=by
  rw [fv,Qo,Jk]
 generalize l.getD i.toNat 0=x at*
 have hp:=two_pos r;have hq:=two_pos (32-r);have hpq:(2:Int)^r*2^(32-r)=4294967296:=by rw [<-Int.pow_add,show r+(32-r)=32 by omega];rfl
 have hr1:=HS (show r<=31 by omega);have x0:0<=x*2^r:=Ja dx.1 (by omega);have x1:x*2^r<=4294967295*2^r:=Jh (by omega) (by omega);refine⟨dx,x0,by omega,by omega,by omega,?_⟩;have hb:=cm hl i.toNat;have hz:0<=nv (l.take i.toNat)*2^r/pw i.toNat/\nv (l.take i.toNat)*2^r/pw i.toNat<2^r:=by
  refine sJ (Ja hb.1 (by omega)) ?_;rw [J6];exact Int.mul_lt_mul_of_pos_left hb.2 hp
 have e0:(i+(w:Int)).toNat=w+i.toNat:=by omega
 have e1:(i+(w:Int)+1).toNat=w+i.toNat+1:=by omega
 have e2:(i+1).toNat=i.toNat+1:=by omega
 rw [e0,e1,e2];have hm:(x*2^r)%4294967296=2^r*(x%2^(32-r)):=by
  rw [<-hpq,J6 x,Int.mul_emod_mul_of_pos _ _ hp]
 have hy0:0<=x%2^(32-r):=Jm _ (by omega);have hy1:x%2^(32-r)<2^(32-r):=Jo _ hq;have hy2:2^r*(x%2^(32-r))<=2^r*(2^(32-r)-1):=Jt (by omega) (by omega);rw [Qm,hpq,Ke]at hy2;have hout:out=(List.replicate w 0++dg i.toNat (nv (l.take i.toNat)*2^r))++(nv (l.take i.toNat)*2^r/pw i.toNat)::0::List.replicate (l.length-(i.toNat+1)) 0:=by
  rw [h3,re,kO (n:=l.length-i.toNat) (by omega),Qr hz.1 (by omega),show l.length-i.toNat-1=l.length-(i.toNat+1) by omega];simp
 have hlen:(List.replicate w 0++dg i.toNat (nv (l.take i.toNat)*2^r)).length=w+i.toNat:=by simp
 have hget:out.getD (w+i.toNat) 0=nv (l.take i.toNat)*2^r/pw i.toNat:=by
  rw [hout,J0,Jy (by omega),hlen,Nat.sub_self];rfl
 have cY:bits .or .u32 (out.getD (w+i.toNat) 0) (V (x*2^r))=(nv (l.take i.toNat)*2^r/pw i.toNat+x*2^r)%4294967296:=by
  rw [hget,iA,hm,NS hz.1 hz.2 hy0 (by omega)];omega
 have hhi:V (x*2^r/4294967296)=(nv (l.take i.toNat)*2^r/pw i.toNat+x*2^r)/4294967296%4294967296:=by
  rw [iA];omega
 rw [cY,hhi,hout,cG hlen,show∀(a b:Int) (L:List Int),(List.replicate w 0++dg i.toNat (nv (l.take i.toNat)*2^r))++a::b::L=((List.replicate w 0++dg i.toNat (nv (l.take i.toNat)*2^r))++[a])++b::L from fun a b L=>by simp,cG (by simp;omega),hz',re,uL,lH];simp
theorem XN :aH Tryz.prog WV:=av k305 hm Tryz.func303 (by kernel_rfl) (by kernel_rfl) T0.ok (by kernel_rfl) (fun a=>aaf a.1 a.2) fun a hp=>by
 have h:Tu a.1 a.2:=by
  rw [<-L3];simp only [aA];obtain⟨z,n⟩:=a
  try dsimp only at hp
  have lz:=dm hp.1;have hd:=(bI z).1;have hn:=Ch hp.2;simp [-List.getD_eq_getElem?_getD,hp];have e1:n.tdiv 32=(n.toNat/32:Nat):=by rw [Ky (by omega)];omega
  have e2:n.tmod 32=(n.toNat%32:Nat):=by rw [X9 (by omega)];omega
  rw [e1,e2];generalize hw:n.toNat/32=w at*
  generalize hr:n.toNat%32=r at*
  have hr2:r<32:=by omega
  have w1:W (w:Int)=w:=aG (by omega) (by omega);have w2:U (r:Int)=r:=ct (by omega) (by omega);rw [w1,w2,aG (n:=((dz z).length:Int)+w) (by omega) (by omega),aG (n:=((dz z).length:Int)+w+1) (by omega) (by omega),show max n 0/32=(w:Int) by omega];refine⟨fun e=> ?_,fun ex=>⟨by omega,⟨Px _ _ _,by omega,fun i hi=>(gR _ _).symm⟩,fun i l hinv=>⟨fun hi=> ?_,fun hi=> ?_⟩⟩⟩
  . rw [(oz (z:=z)).1 (by rw [e];rfl)];simp [gz]
  . have hi0:0<=i:=by unfold na at hinv;exact hinv.1
    have hlen:=tQ hinv;rw [aG (n:=i+(w:Int)) (by omega) (by omega),aG (n:=i+(w:Int)+1) (by omega) (by omega),aG (n:=i+1) (by omega) (by omega)];obtain⟨s1,s2,s3,hstep⟩:=Ba hd hr2 hinv hi;rw [K7,Qn (by omega),ct (n:=(dz z).getD i.toNat 0) s1.1 (by omega),ct (n:=(dz z).getD i.toNat 0*2^r) s2 s3];rw [Vn (by omega)]
    and_intros<;>first|omega|assumption|skip
    intro j hj;rw [bo (by simp;omega)]
    congr 1
    rw [bo (by omega)]
  . have hlen:=tQ hinv;have e:=FT hinv hi;rw [kE (by omega)];have hb:=fV hd;have hv:nv l=(z.natAbs:Int)*2^n.toNat:=by
     rw [e,vw,W2,List.length_replicate,wc (Ja hb.1 (by have:=two_pos r;omega)) (Mh hd (by omega)),iB,Int.zero_add,fE,X7,<-Int.pow_add,show 32*w+r=n.toNat by omega]
    have hz:zv (decide (z<0)) l=z*2^n.toNat:=by
     unfold zv;rw [hv]
     by_cases h0:z<0
     . rw [if_pos (by simpa using h0),<-Int.neg_mul];congr 1;omega
     . rw [if_neg (by simpa using h0)];congr 1;omega
    rw [hz];have hf:br l:=ER (by rw [e];exact Fs.2 ⟨PI _,mo _ _⟩) (by omega);exact⟨by omega,hf,by simp⟩
 exact h
def wL (n:Nat):Nat:=if n=0 then 0 else n.log2+1
def bl (z:Int):Int:=(wL z.natAbs:Int)
def QU :List UInt8:=(List.range 256).map fun i=>UInt8.ofNat (wL i)
def pq (n:Int):Prop:=0<=n/\n<4294967296
def sV :=iR.one (DN .u32)
def sLV :=iR.cons GF sV
def sLI :=iR.cons GF sI
def sUU :=iR.cons (DN .u64) sU
def frL (l:List Int):SV:= .Gl 41 1 l.length fun i=>[.int .u32 (l.getD i 0)]
def vq (a:List Int) (d:Int):List Int:=dg a.length (nv a/d)
def Lf (a:List Int) (s:Int):List Int:=dg (a.length+1) (nv a*2^s.toNat)
def zO (a:List Int) (d:Int):Prop:=br a/\1<=d/\d<4294967296
def Ad (a:List Int) (s:Int):Prop:=br a/\0<=s/\s<32
def wz (z:Int):Prop:=(dz z).length<=2
def sM (a:List Int) (d i rest:Int) (q:List Int):Prop:= -1<=i/\i<a.length/\q=List.replicate (i+1).toNat 0++dg (a.length-(i+1).toNat) (nv (a.drop (i+1).toNat)/d)/\rest=nv (a.drop (i+1).toNat)%d
def La (a b x y:Int):Prop:=0<=x/\0<=y/\x<18446744073709551616/\y<18446744073709551616/\Int.gcd x y=Int.gcd a b
def KN (l:List Int) (i n:Int):Prop:=0<=i/\i<=l.length/\n=nv (l.take i.toNat)
attribute [irreducible] bl pq vq Lf zO Ad wz sM La KN
def c157 :bB:=fl sV.dec (fun a=>pq a) (fun a=>iS (bl a))
def Vq :List (Nat×bB):=(157,c157)::WV
def SQ (n:Int):Prop:=fQ WV Tryz.f157 [] [.int .u32 n] (iS (bl n))
def c400 :bB:=fl sV.dec (fun a=>pq a) (fun a=>iS (32-bl a))
def VZ :List (Nat×bB):=(400,c400)::Vq
def Sg (n:Int):Prop:=fQ Vq Tryz.f400 [] [.int .u32 n] (iS (32-bl n))
def c399 :bB:=fl sLV.dec (fun a=>zO a.1 a.2) (fun a=> .bp [lS (vq a.1 a.2), .int .u32 (nv a.1%a.2)])
def WD :List (Nat×bB):=(399,c399)::VZ
def a399 (a:List Int) (d:Int):List kM:=[⟨.unit, .list [.int .i64 (.tm 8), .int .u64 (.tm 7), .iQ i32 a.length 0 0],fun _ (s:Int×Int×List Int)=>sM a d s.1 s.2.1 s.2.2,fun _ (s:Int×Int×List Int)=>(s.1+1).toNat⟩]
def TN (a:List Int) (d:Int):Prop:=fQ VZ Tryz.f399 (a399 a d) [lS a, .int .u32 d] (.bp [lS (vq a d), .int .u32 (nv a%d)])
def c401 :bB:=fl sLI.dec (fun a=>Ad a.1 a.2) (fun a=>frL (Lf a.1 a.2))
def Wl :List (Nat×bB):=(401,c401)::WD
def a401 (a:List Int) (s:Int):List kM:=[⟨.unit, .list [.int .i64 (.tm 15), .iQ i32 (a.length+1) 0 0],fun _ (x:Int×List Int)=>na a 0 s.toNat x.1 x.2,fun _ (x:Int×List Int)=>(a.length-x.1).toNat⟩]
def TF (a:List Int) (s:Int):Prop:=fQ WD Tryz.f401 (a401 a s) [lS a,iS s] (frL (Lf a s))
def c392 :bB:=fl sUU.dec (fun a=>jW a.1/\jW a.2) (fun a=> .int .u64 (Int.gcd a.1 a.2:Int))
def Vk :List (Nat×bB):=(392,c392)::Wl
def Zx (a:Int) (b:Int):List kM:=[⟨.unit, .list [.int .u64 (.tm 0), .int .u64 (.tm 1)],fun _ (x:Int×Int)=>La a b x.1 x.2,fun _ (x:Int×Int)=>x.2.toNat⟩]
def Tz (a:Int) (b:Int):Prop:=fQ Wl Tryz.f392 (Zx a b) [.int .u64 a, .int .u64 b] (.int .u64 (Int.gcd a b:Int))
def c393 :bB:=fl sZ.dec (fun a=>wz a) (fun a=> .int .u64 (a.natAbs:Int))
def UZ :List (Nat×bB):=(393,c393)::Vk
def a393 (z:Int):List kM:=[⟨.unit, .list [.int .i64 (.tm 9), .int .u64 (.tm 3)],fun _ (x:Int×Int)=>KN (dz z) x.1 x.2,fun _ (x:Int×Int)=>((dz z).length-x.1).toNat⟩]
def SE (z:Int):Prop:=fQ Vk Tryz.f393 (a393 z) [zS z] (.int .u64 (z.natAbs:Int))
theorem M5 (n:Int):(
 let g:=fun(x:Int)=>decide (x>=65536)
 let c:=fun(x:Int)=>x/65536
 let h:=fun(x:Int)=>decide (c x>=256)
 let j:=(0:Int)<=(8:Int)
 let e:=fun(x:Int)=>IntKind.u8.wrap (c x/256)
 let d:=QU.toArray.toList
 let k:=fun(x:Int)=>decide (x>=256)
 let f:=fun(x:Int)=>IntKind.u8.wrap (x/256)
 ab (2:Nat) ((g n=true->(0:Int)<=(16:Int)/\ab (3:Nat) ((h n=true->j/\ab (2:Nat) (((0:Int)<=e n/\e n<(256:Int))/\ab (2:Nat) (W ((24
  :Int)+W ↑(d.getD (e n).toNat (0:UInt8)).toNat)=bl n/\True)))/\(h n=false->((0:Int)<=IntKind.u8.wrap (c n)/\IntKind.u8.wrap (c n)<(256:Int))/\
  ab (2:Nat) (W ((16:Int)+W ↑(d.getD (IntKind.u8.wrap (c n)).toNat (0:UInt8)).toNat)=bl n/\True))))/\(g n=false->True/\(k n=true->j/\ab (2:
  Nat) (((0:Int)<=f n/\f n<(256:Int))/\ab (2:Nat) (W ((8:Int)+W ↑(d.getD (f n).toNat (0:UInt8)).toNat)=bl n/\True)))/\(k n=false->((0:Int)
  <=IntKind.u8.wrap n/\IntKind.u8.wrap n<(256:Int))/\ab (2:Nat) (W ((0:Int)+W ↑(d.getD (IntKind.u8.wrap n).toNat (0:UInt8)).toNat)=bl n/\True)))))=SQ n:=by kernel_rfl
theorem OI (n:Int):(ab 2 ((True/\pq n)/\ab 2 (W (32-bl n)=32-bl n/\True)))=Sg n:=by kernel_rfl
theorem MB (a:List Int) (d:Int):(
 let c:=fun(x:List Int)=>x.length
 let e:=fun(x:List Int)=>(↑(c x):Int)
 let g:=i32
 let p:=fun(y:List Int)=>ah g (c y) fun x=>[SV.int IntKind.u32 0]
 let q:=fun(x:List Int)=>c x=c x/\ ∀(i:Nat),i<c x->sm (x.getD i 0)/\True
 let f:=fun(x:List Int)=>(e x).toNat
 let r:=fun(x:List Int)=>sm 0/\sm (f x)
 let s:=ab 34 True
 let j:=([]:List (Option (Nat×Nat)))
 let t:=1=g.n
 let h:=g.qW
 let u:=fun(x:Int)=>decide (x>=0)
 let k:=fun(x:Int)=>0+x.toNat
 let o:=fun(x y:Int) (w:List Int)=>bits BinOp.or IntKind.u64 (U (x*4294967296)) (U (w.getD y.toNat 0))
 let v:=fun(x y:List Int) (w m x1:Int)=>ah g (c x) fun i'=>af (decide (i'=k w)) (cE (g.enc (y.getD (k w) h)) 0 [SV.int IntKind.u32 (V (U ((o
  m w x).tdiv (U x1))))]) (g.enc (y.getD i' h))
 True/\(e a=e a/\(0:Int)<=e a/\e a<=(9223372036854775807:Int)/\(4:Int)*e a<=(281474976710656:Int))/\ab (3:Nat) ((sM a d (W (e a-(1:Int)))
  (0:Int) (p a)/\(q a/\d=d/\ab (4:Nat) (r a/\sm (0:Int)/\sm (W (e a-(1:Int)))/\s))/\j=j/\((f a=c a/\t/\ ∀(i:Nat),i<f a->(0:Int)
  =(p a).getD i h/\True)/\True)/\True)/\ ∀(n n_1:Int) (l:List Int),sM a d n n_1 l->True/\(u n=true->(0:Int)<=(32:Int)/\((0:Int)<=n/\n<
  e a)/\True/\U d≠(0:Int)/\U d≠(0:Int)/\((0:Int)<=n/\n< ↑(f a))/\k n<c a/\ru true/\True/\sM a d (W (n-(1:Int))) ((o n_1 n a).tmod (U
  d)) (v a l n n_1 d)/\(W (n-(1:Int))+(1:Int)).toNat<(n+(1:Int)).toNat/\(q a/\d=d/\ab (4:Nat) (r a/\sm ((o n_1 n a).tmod (U d))/\sm (W (n
  -(1:Int)))/\s))/\j=j/\((c a=c a/\t/\ ∀(i:Nat),i<c a->(if decide (i=k n)=true then V (U ((o n_1 n a).tdiv (U d)))else l.getD i h)=(v a l
  n n_1 d).getD i h/\True)/\True)/\True)/\(u n=false->True/\((0:Nat)+f a<=c a/\ ∀(i:Nat),i<c a->true=true)/\True/\((f a=(vq a d).length
  /\ ∀(i:Nat),i<f a->l.getD ((0:Nat)+i) h=(vq a d).getD i (0:Int)/\True)/\V n_1=nv a%d/\True)/\True)))=TN a d:=by kernel_rfl
theorem OL (a:List Int) (s:Int):(
 let k:=fun(x:List Int)=>x.length
 let c:=fun(x:List Int)=>(↑(k x):Int)
 let o:=fun(x:List Int)=>W (c x+1)
 let g:=i32
 let d:=fun(x:List Int)=>k x+1
 let u:=fun(m:List Int)=>ah g (d m) fun x=>[SV.int IntKind.u32 0]
 let r:=sm 0
 let h:=fun(x:List Int)=>(o x).toNat
 let v:=fun(x:List Int)=>k x=k x/\ ∀(i:Nat),i<k x->sm (x.getD i 0)/\True
 let w:=ab 26 True
 let q:=([]:List (Option (Nat×Nat)))
 let y:=1=g.n
 let e:=g.qW
 let z:=fun(x:Int) (m:List Int)=>0<=x/\x< ↑(h m)
 let f:=fun(x:Int)=>0+x.toNat
 let j:=fun(x:Int)=>W (x+1)
 let p:=fun(x:Int)=>0+(j x).toNat
 let t:=fun(x:List Int) (m s:Int)=>U (U (x.getD m.toNat 0)*2^min (U s).toNat 64)
 let A:=fun(x m:List Int) (s x1:Int)=>cE (g.enc (x.getD (f s) e)) 0 [SV.int IntKind.u32 (bits BinOp.or IntKind.u32 (x.getD (f s) e) (V (t m s x1)))]
 let B:=fun(x:List Int) (m s:Int)=>V (t x m s/4294967296)
 let C:=fun(x m:List Int) (s x1:Int)=>ah g (d x) fun i'=>af (decide (i'=p s)) (cE (af (decide (p s=f s)) (A m x s x1) (g.enc (m.getD (p
  s) e))) 0 [SV.int IntKind.u32 (B x s x1)]) (af (decide (i'=f s)) (A m x s x1) (g.enc (m.getD i' e)))
 True/\(sm (o a)/\(0:Int)<=o a/\o a<=(9223372036854775807:Int)/\(4:Int)*o a<=(281474976710656:Int))/\ab (2:Nat) ((na a (0:Nat) s.toNat (0
  :Int) (u a)/\(True/\s=s/\ab (3:Nat) ((r/\sm (h a))/\ab (7:Nat) (v a/\c a=c a/\sm (0:Int)/\w)))/\q=q/\((h a=d a/\y/\ ∀(i:Nat),i<
  h a->(0:Int)=(u a).getD i e/\True)/\True)/\True)/\ ∀(n:Int) (l:List Int),na a (0:Nat) s.toNat n l->True/\(decide (n<c a)=true->((0:Int)
  <=n/\n<c a)/\True/\(0:Int)<=U s/\True/\z n a/\f n<d a/\z n a/\f n<d a/\True/\(0:Int)<=(32:Int)/\((0:Int)<=j n/\j n< ↑(h a))/\p n<
  d a/\ab (2:Nat) (na a (0:Nat) s.toNat (j n) (C a l n s)/\(c a-j n).toNat<(c a-n).toNat/\(True/\s=s/\ab (3:Nat) ((r/\sm (h a))/\ab (7:
  Nat) (v a/\c a=c a/\sm (j n)/\w)))/\q=q/\((sm (d a)/\y/\ ∀(i:Nat),i<d a->(if decide (i=p n)=true then B a n s else if decide (i=f n)=true
  then bits BinOp.or IntKind.u32 (l.getD (f n) e) (V (t a n s))else l.getD i e)=(C a l n s).getD i e/\True)/\True)/\True))/\(decide (n<c a)=false->True
  /\((r/\h a=(Lf a s).length/\(Lf a s).length<=d a)/\(∀(i:Nat),i<(Lf a s).length->true=true/\l.getD i e=(Lf a s).getD i (0:Int)/\True)/\True)
  /\True)))=TF a s:=by kernel_rfl
theorem PV (a:Int) (b:Int):(
 let c:=ab 10 True
 let d:=fun(x:Int)=>decide (x>0)
 True/\(La a b a b/\(a=a/\b=b/\c)/\True)/\ ∀(n n_1:Int),La a b n n_1->True/\(d n_1=true->n_1≠0/\ru true/\La a b n_1 (n.tmod n_1)/\(n.tmod
  n_1).toNat<n_1.toNat/\(n_1=n_1/\sm (n.tmod n_1)/\c)/\True)/\(d n_1=false->ab 2 (n= ↑(a.gcd b)/\True)))=Tz a b:=by kernel_rfl
theorem NK (z:Int):(
 let f:=sm (0:Int)
 let d:=fun(x:Int)=>(dz x).length
 let e:=fun(x:Int)=>sm (d x)/\ ∀(i:Nat),i<d x->sm ((dz x).getD i 0)/\True
 let c:=fun(x:Int)=>(↑(d x):Int)
 let g:=ab 14 True
 let o:=fun(x:Int) (y:Nat)=>(aF IntKind.u32).enc ((dz x).getD y 0)
 let h:=fun(x:Int)=>List.map ar.shape [ar.s (SV.bool (decide (x<0))),ar.s (SV.aI 1 (d x) fun i=>o x i)]
 let j:=fun(x:Int)=>h x=h x/\(sm (decide (x<0))/\e x/\True)/\True
 let k:=fun(x y u:Int)=>bits BinOp.or IntKind.u64 x (U (U ((dz y).getD u.toNat 0)*2^min (U (W (32*u))).toNat 64))
 ab 3 ((KN (dz z) 0 0/\ab 3 (f/\ab 3 (e z/\c z=c z/\f/\g))/\j z)/\ ∀(n n_1:Int),KN (dz z) n n_1->True/\(decide (n<c z)=true->(0<=n/\n
  <c z)/\True/\0<=U (W (32*n))/\ab 2 (KN (dz z) (W (n+1)) (k n_1 z n)/\(c z-W (n+1)).toNat<(c z-n).toNat/\ab 3 (sm (k n_1 z n)/\ab 3 (e z
  /\c z=c z/\sm (W (n+1))/\g))/\j z))/\(decide (n<c z)=false->ab 2 (n_1= ↑z.natAbs/\True))))=SE z:=by kernel_rfl
theorem AK {n:Int} (h:pq n):0<=n/\n<4294967296:=by unfold pq at h;exact h
theorem Ew {n:Nat} (h:n≠0):wL n=wL (n/2)+1:=by
 unfold wL;rw [if_neg h,Nat.log2_def]
 by_cases h2:n>=2
 . rw [if_pos h2,if_neg (by omega)]
 . rw [if_neg h2,if_pos (by omega)]
theorem zZ {k n:Nat} (h:n/2^k≠0):wL n=k+wL (n/2^k):=by
 induction k generalizing n with
 |zero=>simp
 |succ k ih=>
  have hn:n≠0:=by intro e;subst e;simp at h
  have e:n/2^(k+1)=n/2/2^k:=by rw [Xi,Km,Nat.div_div_eq_div_mul]
  rw [e]at h⊢;rw [Ew hn,ih h];omega
theorem xJ {n k:Nat} (h:n<2^k):wL n<=k:=by
 unfold wL;split
 . omega
 . rename_i h0;exact(Nat.log2_lt h0).2 h
theorem HK {n k:Nat} (h:wL n<=k):n<2^k:=by
 unfold wL at h;split at h
 . rename_i h0;subst h0;exact Z4 (by omega)
 . rename_i h0;exact(Nat.log2_lt h0).1 h
theorem Nw :((List.range 256).all fun i=>(QU.getD i 0).toNat==wL i)=true:=by kernel_rfl
theorem Mj {i:Nat} (h:i<256):(QU.getD i 0).toNat=wL i:=by
 have:=Js.1 Nw i (Kn.2 h);simpa using this
theorem My {n:Int} (h0:0<=n) (h:n<4294967296):0<=bl n/\bl n<=32/\(1<=n->1<=bl n):=by
 unfold bl;have:=xJ (n:=n.natAbs) (k:=32) (by omega);refine⟨by omega,by omega,fun h1=> ?_⟩;rw [Ew (by omega)];omega
theorem k157 :aH Tryz.prog Vq:=av XN hm Tryz.func157 (by kernel_rfl) (by kernel_rfl) sV.ok (by kernel_rfl) (fun _=>[]) fun a hp=>by
 have h:SQ a:=by
  rw [<-M5];simp only [aA];generalize a=n at*
  try dsimp only at hp
  obtain⟨h0,h1⟩:=AK hp;obtain⟨m,rfl⟩:=Q8 h0;have d1:((m:Int)/65536)=((m/65536:Nat):Int):=by omega
  have d2:((m/65536:Nat):Int)/256=((m/65536/256:Nat):Int):=by omega
  have d3:((m:Int)/256)=((m/256:Nat):Int):=by omega
  have e0:bl (m:Int)=(wL m:Int):=by unfold bl;simp
  have w8: ∀i:Nat,i<256->IntKind.u8.wrap (i:Int)=i:=fun i hi=>by simp [IntKind.wrap,IntKind.bits,IntKind.signed];omega
  have fin: ∀(k i:Nat),i<256->k<=24->wL m=k+wL i->W (k+W ((QU.getD i 0).toNat:Int))=bl (m:Int):=fun k i hi hk he=>by
   rw [Mj hi,e0,he];have:=xJ (k:=8) (n:=i) (by omega);rw [aG (n:=(wL i:Int)) (by omega) (by omega),aG (by omega) (by omega)];omega
  simp [-List.getD_eq_getElem?_getD];rw [d1,d2,d3];refine⟨fun h2=>⟨fun h3=> ?_,fun h3=> ?_⟩,fun h2=>⟨fun h3=> ?_,fun h3=> ?_⟩⟩
  . rw [w8 _ (by omega),K7];exact⟨by omega,fin 24 _ (by omega) (by omega) (by rw [zZ (k:=16) (by omega),zZ (k:=8) (n:=m/2^16) (by omega)];simp;omega)⟩
  . rw [w8 _ (by omega),K7];exact⟨by omega,fin 16 _ (by omega) (by omega) (by rw [zZ (k:=16) (by omega)])⟩
  . rw [w8 _ (by omega),K7];exact⟨by omega,fin 8 _ (by omega) (by omega) (by rw [zZ (k:=8) (by omega)])⟩
  . rw [w8 _ (by omega),K7];have:=fin 0 m (by omega) (by omega) (by omega);simp only [Int.natCast_zero,Int.zero_add]at this;exact⟨by omega,this⟩
 exact h
theorem k400 :aH Tryz.prog VZ:=av k157 hm Tryz.func400 (by kernel_rfl) (by kernel_rfl) sV.ok (by kernel_rfl) (fun _=>[]) fun a hp=>by
 have h:Sg a:=by
  rw [<-OI];simp only [aA];generalize a=n at*
  try dsimp only at hp
  obtain⟨h0,h1⟩:=AK hp;have:=My h0 h1;simp [-List.getD_eq_getElem?_getD,hp];rw [aG (by omega) (by omega)]
 exact h
theorem R8 {a:List Int} {d:Int} (h:zO a d):br a/\1<=d/\d<4294967296:=by unfold zO at h;exact h
theorem yZ {u y:Int} {r:Nat} (hu:0<=u) (hu2:u<2^r) (hy:0<=y) (h:u+2^r*y<18446744073709551616):bits .or .u64 u (2^r*y)=u+2^r*y:=by
 have hp:=two_pos r;have hy2:0<=(2:Int)^r*y:=Ja (by omega) hy;obtain⟨u,rfl⟩:=Q8 hu;obtain⟨y,rfl⟩:=Q8 hy;have e0:((2:Int)^r*(y:Int))=((2^r*y:Nat):Int):=by simp
 rw [e0]at h⊢;have hu3:u<2^r:=by
  have:((u:Nat):Int)<((2^r:Nat):Int):=by simpa using hu2
  omega
 have e1:bits .or .u64 (u:Int) ((2^r*y:Nat):Int)=IntKind.u64.wrap ((BitVec.ofInt 64 (u:Int)|||BitVec.ofInt 64 ((2^r*y:Nat):Int)).toNat:Int):=rfl;have e2:(BitVec.ofInt 64 (u:Int)|||BitVec.ofInt 64 ((2^r*y:Nat):Int)).toNat=u+2^r*y:=by
  rw [BitVec.toNat_or,Xu,Xu];rw [show(((u:Int)%((2^64:Nat):Int)).toNat)=u by omega,show((((2^r*y:Nat):Int)%((2^64:Nat):Int)).toNat)=2^r*y by omega];rw [Nat.or_comm,<-Nat.two_pow_add_eq_or_of_lt hu3];omega
 rw [e1,e2,Su,ct (by omega) (by omega)];omega
theorem Bo (x y:Int):bits .or .u64 x y=bits .or .u64 y x:=by
 have e: ∀x y:Int,bits .or .u64 x y=IntKind.u64.wrap ((BitVec.ofInt 64 x|||BitVec.ofInt 64 y).toNat:Int):=fun _ _=>rfl
 rw [e,e,BitVec.or_comm]
theorem drop_cons {a:List Int} {i:Nat} (hi:i<a.length):a.drop i=a.getD i 0::a.drop (i+1):=by
 rw [Qa hi,J0,J4 hi];rfl
theorem Wd (a:List Int) (d:Int):sM a d (a.length-1) 0 (List.replicate a.length 0):=by
 unfold sM;rw [show((a.length:Int)-1+1).toNat=a.length by omega];refine⟨by omega,by omega,?_,?_⟩
 . simp [dg]
 . simp [nv]
theorem FN {a:List Int} {d i rest:Int} {q:List Int} (h:sM a d i rest q):q.length=a.length:=by
 unfold sM at h;obtain⟨h1,h2,rfl,h4⟩:=h;simp;omega
theorem OD {a:List Int} {d i rest:Int} {q:List Int} (h:sM a d i rest q) (hi:i<0):q=vq a d/\rest=nv a%d:=by
 unfold sM at h;obtain⟨h1,h2,h3,h4⟩:=h;have e:i= -1:=by omega
 subst e;simp at h3 h4;unfold vq;exact⟨h3,h4⟩
theorem RN {a:List Int} {d i rest:Int} {q:List Int} (ha:cO a) (d1:1<=d) (d2:d<4294967296) (h:sM a d i rest q) (hi:0<=i):
 GD (a.getD i.toNat 0)/\0<=rest/\rest<d/\rest*4294967296+a.getD i.toNat 0<4294967296*d/\sM a d (i-1) ((rest*4294967296+a.getD i.toNat 0)%d) (q.set i.toNat ((rest*4294967296+a.getD i.toNat 0)/d)):=by
 unfold sM at h⊢;obtain⟨h1,h2,h3,h4⟩:=h;have da:=bH ha i.toNat;rw [show(i+1).toNat=i.toNat+1 by omega]at h3 h4;rw [show(i-1+1).toNat=i.toNat by omega];have r0:0<=rest:=by rw [h4];exact Jm _ (by omega)
 have r1:rest<d:=by rw [h4];exact Jo _ (by omega)
 have r3:rest*4294967296+a.getD i.toNat 0<4294967296*d:=by omega
 have e:nv (a.drop i.toNat)=(rest*4294967296+a.getD i.toNat 0)+d*(4294967296*(nv (a.drop (i.toNat+1))/d)):=by
  rw [drop_cons (by omega),nv];have:=Int.emod_add_mul_ediv (nv (a.drop (i.toNat+1))) d;rw [<-h4]at this;rw [X7];omega
 have q1:(rest*4294967296+a.getD i.toNat 0)/d<4294967296:=(Kl (by omega)).2 r3;have q0:0<=(rest*4294967296+a.getD i.toNat 0)/d:=Kb (by omega) (by omega);refine⟨da,r0,r1,r3,by omega,by omega,?_,?_⟩
 . rw [e,X3 _ _ (by omega),show a.length-i.toNat=(a.length-(i.toNat+1))+1 by omega,dg];rw [h3,List.replicate_succ',Jq,Xj,cG (by simp)]
   congr 2
   . omega
   . congr 1;omega
 . rw [e,Yg]
theorem k399 :aH Tryz.prog WD:=av k400 hm Tryz.func399 (by kernel_rfl) (by kernel_rfl) sLV.ok (by kernel_rfl) (fun a=>a399 a.1 a.2) fun a hp=>by
 have h:TN a.1 a.2:=by
  rw [<-MB];simp only [aA];obtain⟨a,d⟩:=a
  try dsimp only at hp
  obtain⟨hf,d1,d2⟩:=R8 hp;have hl:=nz hf;have ha:=qv hf;simp [-List.getD_eq_getElem?_getD];refine⟨by omega,⟨?_,fun i hi=>(gR _ _).symm⟩,fun i rest q hinv=>⟨fun hi=> ?_,fun hi=> ?_⟩⟩
  . rw [aG (by omega) (by omega)];exact Wd a d
  . obtain⟨r0,r1,r2,r3,r4⟩:=RN ha d1 d2 hinv hi;have hlen:=FN hinv;have hlt:i<a.length:=by unfold sM at hinv;exact hinv.2.1
    rw [aG (n:=i-1) (by omega) (by omega),ct (n:=d) (by omega) (by omega),ct (n:=a.getD i.toNat 0) (by omega) (by omega),ct (n:=rest*4294967296) (by omega) (by omega)];have e:bits BinOp.or IntKind.u64 (rest*4294967296) (a.getD i.toNat 0)=rest*4294967296+a.getD i.toNat 0:=by
     have:=yZ (u:=a.getD i.toNat 0) (y:=rest) (r:=32) (by omega) (by omega) (by omega) (by omega);rw [show(2:Int)^32=4294967296 from rfl]at this;rw [Bo,J6,this];omega
    rw [e,Ky (by omega),X9 (by omega)];have q0:0<=(rest*4294967296+a.getD i.toNat 0)/d:=Kb (by omega) (by omega);have q1:(rest*4294967296+a.getD i.toNat 0)/d<4294967296:=(Kl (by omega)).2 r3;rw [ct q0 (by omega),Aj q0 q1,tv hlen.symm]
    and_intros<;>first|omega|assumption|exact fun i hi=>(bo (by omega)).symm
  . have e:=OD hinv hi;rw [<-e.1,e.2];have hlen:=FN hinv;have h3:=Jm (nv a) (show d≠0 by omega);have h4:=Jo (nv a) (show 0<d by omega);exact⟨⟨hlen.symm,fun _ _=>rfl⟩,Aj h3 (by omega)⟩
 exact h
theorem PQ {a:List Int} {s:Int} (h:Ad a s):br a/\0<=s/\s<32:=by unfold Ad at h;exact h
theorem k401 :aH Tryz.prog Wl:=av k399 hm Tryz.func401 (by kernel_rfl) (by kernel_rfl) sLI.ok (by kernel_rfl) (fun a=>a401 a.1 a.2) fun a hp=>by
 have h:TF a.1 a.2:=by
  rw [<-OL];simp only [aA];obtain⟨a,s⟩:=a
  try dsimp only at hp
  obtain⟨hf,s1,s2⟩:=PQ hp;have hl:=nz hf;have ha:=qv hf;have hs:=Px a 0 s.toNat;simp [-List.getD_eq_getElem?_getD];simp only [Jv]at hs;rw [aG (n:=(a.length:Int)+1) (by omega) (by omega)];refine⟨by omega,⟨hs,by omega,fun i hi=>(gR _ _).symm⟩,fun i l hinv=>⟨fun hi=> ?_,fun hi=> ?_⟩⟩
  . have hi0:0<=i:=by unfold na at hinv;exact hinv.1
    have hlen:=tQ hinv;rw [aG (n:=i+1) (by omega) (by omega),ct (n:=s) (by omega) (by omega)];obtain⟨s1,s2,s3,hstep⟩:=Ba ha (by omega) hinv hi;simp only [Int.natCast_zero,X6]at hstep;rw [Qn (by omega),ct (n:=a.getD i.toNat 0) s1.1 (by omega),ct (n:=a.getD i.toNat 0*2^s.toNat) s2 s3];rw [Vn (by omega)]
    and_intros<;>first|omega|assumption|skip
    intro j hj;rw [bo (by simp;omega)]
    congr 1
    rw [bo (by omega)]
  . have e:=FT hinv hi;have:Lf a s=l:=by rw [e];unfold Lf;simp
    rw [this];have hlen:=tQ hinv;exact⟨by omega,fun _ _=>rfl⟩
 exact h
theorem k392 :aH Tryz.prog Vk:=av k401 hm Tryz.func392 (by kernel_rfl) (by kernel_rfl) sUU.ok (by kernel_rfl) (fun a=>Zx a.1 a.2) fun a hp=>by
 have h:Tz a.1 a.2:=by
  rw [<-PV];simp only [aA];obtain⟨a,b⟩:=a
  try dsimp only at hp
  have h1:=GM hp.1;have h2:=GM hp.2;simp [-List.getD_eq_getElem?_getD];unfold La;refine⟨by omega,fun x y hinv=>⟨fun hy=> ?_,fun hy=> ?_⟩⟩
  . obtain⟨g1,g2,g3,g4,g5⟩:=hinv;rw [X9 g1];have m1:=Jm x (show y≠0 by omega);have m2:=Jo x hy;refine⟨by omega,⟨g2,m1,g4,by omega,?_⟩,by omega⟩;rw [<-g5];obtain⟨x,rfl⟩:=Q8 g1;obtain⟨y,rfl⟩:=Q8 g2;rw [<-Int.natCast_emod,Yh,Yh,Nat.gcd_comm x y,Nat.gcd_rec y x,Nat.gcd_comm]
  . obtain⟨g1,g2,g3,g4,g5⟩:=hinv;have:y=0:=by omega
    subst this;rw [<-g5,Z9];omega
 exact h
theorem QC {z:Int} (h:wz z):(dz z).length<=2:=by unfold wz at h;exact h
theorem k393 :aH Tryz.prog UZ:=av k392 hm Tryz.func393 (by kernel_rfl) (by kernel_rfl) sZ.ok (by kernel_rfl) (fun a=>a393 a) fun a hp=>by
 have h:SE a:=by
  rw [<-NK];simp only [aA];generalize a=z at*
  try dsimp only at hp
  have hl:=QC hp;have hd:=(bI z).1;simp [-List.getD_eq_getElem?_getD];unfold KN;refine⟨by simp [nv],fun i n hinv=>⟨fun hi=> ?_,fun hi=> ?_⟩⟩
  . obtain⟨g1,g2,g3⟩:=hinv;have da:=bH hd i.toNat;have hb:=cm hd i.toNat;have e:bits BinOp.or IntKind.u64 n (U (U ((dz z).getD i.toNat 0)*2^min (U (W (32*i))).toNat 64))=nv ((dz z).take (i+1).toNat):=by
     rw [aG (n:=32*i) (by omega) (by omega),ct (n:=32*i) (by omega) (by omega),ct (n:=(dz z).getD i.toNat 0) (by omega) (by omega),show(i+1).toNat=i.toNat+1 by omega,fv,<-g3,show min (32*i).toNat 64=32*i.toNat by omega,fE];rw [fE]at hb;have h4:(dz z).getD i.toNat 0*2^(32*i.toNat)+n<18446744073709551616:=by
      have:i.toNat=0\/i.toNat=1:=by omega
      rcases this with e|e
      . rw [e]at hb da g3⊢;simp [-List.getD_eq_getElem?_getD,nv]at hb da g3⊢;omega
      . rw [e]at hb da g3⊢;simp [-List.getD_eq_getElem?_getD,nv]at hb da g3⊢;omega
     have h5:0<=(dz z).getD i.toNat 0*2^(32*i.toNat):=Ja da.1 (by have:=two_pos (32*i.toNat);omega);rw [ct h5 (by omega),J6,yZ (by omega) (by omega) da.1 (by rw [J6];omega)]
    rw [e,aG (n:=i+1) (by omega) (by omega)];refine⟨by omega,?_,⟨by omega,by omega,rfl⟩,by omega⟩;rw [aG (by omega) (by omega),ct (by omega) (by omega)];omega
  . obtain⟨g1,g2,g3⟩:=hinv;rw [g3,Jz (by omega),iB]
 exact h
end Go.Proofs.Big
