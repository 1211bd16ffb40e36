import Derived.Test.YtpjiopgakifhaaaGreatTJ
import Derived.Test.YtpjiopgakifhaaaGreatTL
import Derived.Test.YtpjiopgakifhaaaGreatTK
set_option linter.unusedSectionVars false
set_option linter.unusedSimpArgs false
set_option linter.unusedVariables false
set_option maxRecDepth 100000
namespace Go.Proofs.Big
open Go Go.Sx Go.Proofs
variable [bW]
attribute [local irreducible] lm nv tl dg dz
def rr (l:List Int):List Int:=ah (aF .u32) l.length fun i=>(aF .u32).enc (l.getD i 0)
def sf (b:List Int):Int:=(32:Int)-bl (b.getD (W (↑b.length-(1:Int))).toNat (0:Int))
def yX (b:List Int):List Int:=Lf (rr b) (sf b)
def Wb (a b:List Int):List Int:=Lf (rr a) (sf b)
def mm (a b:List Int):Int:=W (HSub.hSub (α:=Int) ↑a.length ↑b.length)
attribute [irreducible] rr sf yX Wb mm
def qL (a b:List Int):List Int:=if nv a<nv b then []else if b.length=1 then vq a (b.getD 0 0)else dg (a.length-b.length+1) (nv a/nv b)
def rL (a b:List Int):List Int:=if nv a<nv b then a else if b.length=1 then [nv a%b.getD 0 0]else dg b.length (nv a%nv b)
def tY (a b:List Int):Prop:=mU a/\mU b/\0<nv b
def rX (b:List Int):Int:=32-bl (b.getD (b.length-1) 0)
def u0 (a b:List Int):Int:=nv a*2^(rX b).toNat
def v0 (b:List Int):Int:=nv b*2^(rX b).toNat
def KA (a b:List Int) (j:Nat):Int:=(u0 a b/pw j)%v0 b
def bV (a b:List Int) (j:Nat):Int:=KA a b (j+1)*4294967296+(u0 a b/pw j)%4294967296
def inv1 (a b:List Int) (j:Int) (u q:List Int):Prop:= -1<=j/\j+b.length<=a.length/\u=dg (j+1).toNat (u0 a b)++dg (a.length+1-(j+1).toNat) (KA a b (j+1).toNat)/\q=List.replicate (j+1).toNat 0++dg (a.length-b.length+1-(j+1).toNat) (u0 a b/v0 b/pw (j+1).toNat)
def inv2 (a b:List Int) (j g r:Int):Prop:=0<=r/\r<4294967296/\g*(v0 b/pw (b.length-1))+r=bV a b j.toNat/pw (b.length-1)/\bV a b j.toNat/v0 b<=g
def kh (a b:List Int) (j g i c w:Int) (u:List Int):Prop:=0<=i/\i<=b.length/\c=g*(v0 b%pw i.toNat)/pw i.toNat/\w= -((bV a b j.toNat%pw i.toNat-(g*(v0 b%pw i.toNat))%pw i.toNat)/pw i.toNat)/\
 u=dg j.toNat (u0 a b)++(dg i.toNat (bV a b j.toNat%pw i.toNat-(g*(v0 b%pw i.toNat))%pw i.toNat)++(dg (b.length+1-i.toNat) (bV a b j.toNat/pw i.toNat)++List.replicate (a.length-j.toNat-b.length) 0))
def mP (a b:List Int) (j i c:Int) (u:List Int):Prop:=0<=i/\i<=b.length/\c=((bV a b j.toNat%v0 b-v0 b)%pw i.toNat+v0 b%pw i.toNat)/pw i.toNat/\
 u=dg j.toNat (u0 a b)++(dg i.toNat ((bV a b j.toNat%v0 b-v0 b)%pw i.toNat+v0 b%pw i.toNat)++(dg (b.length-i.toNat) ((bV a b j.toNat%v0 b-v0 b)/pw i.toNat)++4294967295::List.replicate (a.length-j.toNat-b.length) 0))
def rC (a b:List Int) (i:Int) (r:List Int):Prop:=0<=i/\i<=b.length/\r=dg i.toNat (nv a%nv b)++List.replicate (b.length-i.toNat) 0
attribute [irreducible] qL rL tY rX u0 v0 KA bV inv1 inv2 kh mP rC
def c381 :bB:=fl To.dec (fun a=>tY a.1 a.2) (fun a=> .bp [lS (qL a.1 a.2),lS (rL a.1 a.2)])
def Wm :List (Nat×bB):=(381,c381)::UZ
def ZJ (a:List Int) (b:List Int):List kM:=[⟨.unit, .list [.int .i64 (.tm 15), .iQ i32 (a.length+1) 0 0, .iQ i32 (a.length-b.length+1) 2 0],fun _ (x:Int×List Int×List Int)=>inv1 a b x.1 x.2.1 x.2.2,fun _ (x:Int×List Int×List Int)=>(x.1+1).toNat⟩,⟨.int .i64 (.tm 15), .list [.int .u64 (.tm 17), .int .u64 (.tm 18)],fun(j:Int) (x:Int×Int)=>inv2 a b j x.1 x.2,fun _ (x:Int×Int)=>x.1.toNat⟩,⟨.list [.int .i64 (.tm 15), .int .u64 (.tm 17)], .list [.int .i64 (.tm 21), .int .u64 (.tm 20), .int .u64 (.tm 19), .iQ i32 (a.length+1) 0 0],fun(y:Int×Int) (x:Int×Int×Int×List Int)=>kh a b y.1 y.2 x.1 x.2.1 x.2.2.1 x.2.2.2,fun(y:Int×Int) (x:Int×Int×Int×List Int)=>(b.length-x.1).toNat⟩,⟨.int .i64 (.tm 15), .list [.int .i64 (.tm 26), .int .u64 (.tm 25), .iQ i32 (a.length+1) 0 0],fun(j:Int) (x:Int×Int×List Int)=>mP a b j x.1 x.2.1 x.2.2,fun(j:Int) (x:Int×Int×List Int)=>(b.length-x.1).toNat⟩,⟨.unit, .list [.int .i64 (.tm 28), .iQ i32 b.length 3 0],fun _ (x:Int×List Int)=>rC a b x.1 x.2,fun _ (x:Int×List Int)=>(b.length-x.1).toNat⟩]
def Se (a:List Int) (b:List Int):Prop:=fQ UZ Tryz.f381 (ZJ a b) [lS a,lS b] (.bp [lS (qL a b),lS (rL a b)])
theorem NH (a:List Int) (b:List Int):(
 let d:=fun(x:List Int)=>x.length
 let e8:=true=true
 let d9:=fun(x:List Int)=> ∀(i:Nat),i<d x->e8/\True
 let j9:=fun(x m:List Int)=>decide (nU (rr x) (rr m)<0)
 let g8:=fun(x:List Int)=> ∀(j:Nat),j<d x->e8
 let g9:=fun(x m:List Int) (x1:Nat)=>(rL x m).getD x1 0
 let g:=fun(x:List Int)=>(↑(d x):Int)
 let k0:=fun(x:List Int)=>g x==1
 let k1:=(0:Int)<=(0:Int)
 let e0:=fun(x:List Int)=>x.getD 0 0
 let c2:=fun(x:List Int)=>W (g x-1)
 let d0:=fun(x:List Int)=>(yX x).length
 let P:=ru true
 let e1:=fun(x m:List Int)=>W (mm x m+1)
 let h0:=fun(x:List Int)=>(↑(g x-0).toNat:Int)
 let e9:=fun(x:List Int)=>W (g x-2)
 let f:=i32
 let u:=fun(x:List Int)=>d x+1
 let C:=([]:List SV)
 let q1:=fun(x m:List Int) (x1:Nat)=>SV.int IntKind.u32 ((Wb x m).getD x1 0)::C
 let k2:=fun(x m:List Int)=>ah f (u x) fun i=>q1 x m i
 let s:=fun(x m:List Int)=>d x-d m+1
 let f0:=(fun x=>SV.int IntKind.u32 0::C:Nat->List SV)
 let e2:=sm 0
 let c3:=fun(x m:List Int)=>(e1 x m).toNat
 let p:=fun(x m:List Int)=>e2/\sm (c3 x m)
 let q:=fun(x:List Int)=>sf x=sf x
 let f1:=fun(x m:List Int)=>(Wb x m).length
 let k:=fun(x m:List Int)=>e2/\sm (f1 x m)
 let v:=fun(x:List Int)=>e2/\sm (g x-0).toNat
 let h:=fun(x:List Int)=>g x=g x
 let M:=fun(x:List Int)=>U ((yX x).getD (0+(c2 x).toNat) 0)
 let w:=fun(x:List Int)=>sm (M x)
 let h1:=fun(x:List Int)=>U ((yX x).getD (0+(e9 x).toNat) 0)
 let t:=fun(x:List Int)=>sm (h1 x)
 let k3:=ab 266 True
 let k4:=([]:List (Option (Nat×Nat)))
 let c:=k4=k4
 let h2:=f.n
 let z:=1=h2
 let e:=f.qW
 let Q:=fun(x:List Int)=>(sm (d0 x)/\sm 1/\ ∀(i:Nat),i<d0 x->sm ((yX x).getD i 0)/\True)/\True
 let k5:=fun(x:Int)=>decide (x>=0)
 let d1:=fun(x:Int) (m:List Int)=>W (x+g m)
 let d2:=fun(x m:List Int)=>(↑(f1 x m):Int)
 let G:=fun(x:Int) (m x1:List Int)=>0<=d1 x m/\d1 x m<d2 x1 m
 let h3:=fun(x:Int) (m:List Int)=>0+(d1 x m).toNat
 let H:=fun(x:Int) (m x1:List Int)=>h3 x m<u x1
 let R:=(0:Int)<=(32:Int)
 let f2:=fun(x:Int) (m:List Int)=>W (d1 x m-1)
 let T:=fun(x m:List Int) (x1:Int)=>x.getD (h3 x1 m) e
 let f3:=fun(x m:List Int) (x1:Int)=>bits BinOp.or IntKind.u64 (U (U (T x m x1)*4294967296)) (U (x.getD (0+(f2 x1 m).toNat) e))
 let o:=fun(x:Int)=>x=x
 let k6:=ab 263 True
 let c4:=fun(x:List Int)=>sm (u x)
 let h4:=h2=h2
 let c5:=fun(x:Nat) (m:List Int)=>x<u m
 let A:=fun(x:List Int) (m:Nat)=>x.getD m e
 let e3:=fun(x m:List Int)=>(c4 x/\h4/\ ∀(i:Nat),c5 i x->sm (A m i)/\True)/\True
 let f4:=fun(x m:List Int)=>sm (s x m)
 let f5:=fun(x m x1:List Int)=>(f4 x m/\h4/\ ∀(i:Nat),i<s x m->sm (A x1 i)/\True)/\True
 let N:=fun(x m x1:List Int)=>c/\Q x/\c/\f5 m x x1/\True
 let k7:=fun(x:Int)=>decide (x>=4294967296)
 let h5:=fun(x:Int) (m:List Int)=>decide (U (x+M m)>=4294967296)
 let r:=fun(x:Int)=>U (x-1)
 let q2:=fun(x:List Int) (m:Nat)=>f.enc (A x m)
 let J:=fun(x:List Int)=>fun j=>q2 x j
 let f6:=fun(x m:List Int)=>ah f (u x) (J m)
 let c6:=fun(x:Int)=>sm (r x)
 let B:=sm (0:Int)
 let k8:=ab 260 True
 let h6:=fun(x m x1 y1:List Int)=>c/\((c4 x/\h4/\ ∀(i:Nat),c5 i x->A m i=(f6 x m).getD i e/\True)/\True)/\N x1 x y1
 let c7:=fun(x:Int) (m:List Int)=>decide (x<g m)=true
 let d3:=fun(x:Int) (m:List Int)=>0<=x/\x<h0 m
 let y:=fun(x:Int)=>0+x.toNat
 let d4:=fun(x:Int) (m:List Int)=>y x<d0 m
 let D:=fun(x m:Int) (x1 y1:List Int)=>0<=W (x+m)/\W (x+m)<d2 x1 y1
 let f7:=fun(x m:Int)=>0+(W (x+m)).toNat
 let E:=fun(x m:Int) (x1:List Int)=>f7 x m<u x1
 let d5:=(0:Int)<=(63:Int)
 let F:=fun(x:Int)=>W (x+1)
 let K:=fun(x:List Int) (m:Int)=>U ((yX x).getD (y m) 0)
 let f8:=fun(x m x1:Int) (y1:List Int)=>U (U (r x*K y1 m)+x1)/4294967296
 let O:=fun(x:List Int) (m x1:Int)=>U (x.getD (f7 m x1) e)
 let f9:=fun(x m:List Int) (x1 y1 u1 v1 w1:Int)=>U (U (O x x1 y1-U (V (U (U (r u1*K m x1)+v1))))-w1)/9223372036854775808
 let d6:=fun(x:Nat) (m x1:Int)=>decide (x=f7 m x1)
 let h7:=fun(x:List Int) (m x1:Int)=>f.enc (x.getD (f7 m x1) e)
 let h8:=fun(x m x1:List Int) (y1 u1 v1 w1 m1:Int)=>ah f (u x) fun i'=>af (d6 i' y1 u1) (cE (h7 m y1 u1) 0 (SV.int IntKind.u32 (V (U (U (O m y1
  u1-U (V (U (U (r v1*K x1 y1)+w1))))-m1)))::C)) (J m i')
 let c0:=fun(x:List Int) (m:Int)=>(g x-F m).toNat<(g x-m).toNat
 let c8:=fun(x:Int)=>sm (F x)
 let k9:=fun(x m x1 y1:List Int) (u1 v1 w1 m1 r1:Int)=>c/\((c4 x/\z/\ ∀(i:Nat),c5 i x->(if d6 i u1 v1=true then V (U (U (O m u1 v1-U (V (U (U
  (r w1*K x1 u1)+m1))))-r1))else A m i)=(h8 x m x1 u1 v1 w1 m1 r1).getD i e/\True)/\True)/\N x1 x y1
 let d7:=fun(x:Int) (m:List Int)=>decide (x<g m)=false
 let e4:=fun(x m:List Int) (x1 y1 u1:Int)=>U (U (U (T x m x1)-y1)-u1)/9223372036854775808 !=0
 let g0:=fun(x:Nat) (m:Int) (x1:List Int)=>decide (x=h3 m x1)
 let g1:=fun(x m x1:List Int) (y1 u1 v1:Int)=>ah f (u x) fun i'=>af (g0 i' y1 m) (cE (f.enc (T x1 m y1)) 0 (SV.int IntKind.u32 (V (U (U (U (T x1
  m y1)-u1)-v1)))::C)) (J x1 i')
 let h9:=fun(x m x1:List Int) (y1 u1 v1:Int)=>mP x m y1 0 0 (g1 x m x1 y1 u1 v1)
 let g2:=fun(x:Int)=>sm (U (r x-1))
 let o0:=ab 255 True
 let e5:=fun(x m x1:List Int) (y1 u1 v1:Int)=>(c4 x/\z/\ ∀(i:Nat),c5 i x->(if g0 i y1 m=true then V (U (U (U (T x1 m y1)-u1)-v1))else A x1 i)
  =(g1 x m x1 y1 u1 v1).getD i e/\True)/\True
 let g3:=fun(x m:List Int) (x1 y1 u1:Int)=>U (U (O x x1 y1+K m x1)+u1)/4294967296
 let o1:=fun(x m x1:List Int) (y1 u1 v1:Int)=>ah f (u x) fun i'=>af (d6 i' y1 u1) (cE (h7 m y1 u1) 0 (SV.int IntKind.u32 (V (U (U (O m y1 u1+
  K x1 y1)+v1)))::C)) (J m i')
 let j0:=fun(x m x1:List Int) (y1 u1 v1:Int)=>mP x m y1 (F u1) (g3 x1 m u1 y1 v1) (o1 x x1 m u1 y1 v1)
 let j1:=fun(x m x1 y1:List Int) (u1 v1 w1:Int)=>c/\((c4 x/\z/\ ∀(i:Nat),c5 i x->(if d6 i u1 v1=true then V (U (U (O m u1 v1+K x1 u1)+w1))else
  A m i)=(o1 x m x1 u1 v1 w1).getD i e/\True)/\True)/\N x1 x y1
 let g4:=fun(x:Int) (m x1:List Int)=>0<=x/\x< ↑(c3 m x1)
 let d8:=fun(x:Int)=>W (x-1)
 let j2:=fun(x m x1:List Int) (y1 u1:Int)=>ah f (u x) fun i'=>af (g0 i' y1 m) (cE (f.enc (T x1 m y1)) 0 (SV.int IntKind.u32 (V (T x1 m y1+V u1))
  ::C)) (J x1 i')
 let L:=fun(x:Nat) (m:Int)=>decide (x=y m)
 let j3:=fun(x:List Int) (m:Int)=>x.getD (y m) e
 let e6:=fun(x:List Int) (m:Int)=>f.enc (j3 x m)
 let o2:=fun(x m x1:List Int) (y1 u1:Int)=>ah f (s x m) fun i'=>af (L i' y1) (cE (e6 x1 y1) 0 (SV.int IntKind.u32 (V (U (r u1-1)))::C)) (J
  x1 i')
 let g5:=fun(x:Int)=>(d8 x+1).toNat<(x+1).toNat
 let g6:=fun(x m:List Int) (x1:Int)=>ab 4 (p x m/\ab 3 (q m/\k x m/\v m/\h m/\True/\w m/\t m/\sm (d8 x1)/\k3))
 let o3:=fun(x m x1:List Int) (y1 u1:Int)=>(c4 x/\z/\ ∀(i:Nat),c5 i x->(if g0 i y1 m=true then V (T x1 m y1+V u1)else A x1 i)=(j2 x m x1 y1
  u1).getD i e/\True)/\True
 let o4:=fun(x m x1 y1:Int) (u1 v1 w1 m1:List Int)=>d7 x u1->G m u1 v1/\H m u1 v1/\G m u1 v1/\H m u1 v1/\True/\g4 m v1 u1/\y m<s v1 u1/\ab 2 (inv1
  v1 u1 (d8 m) (j2 v1 u1 w1 m x1) (o2 v1 u1 m1 m y1)/\g5 m/\g6 v1 u1 m/\c/\o3 v1 u1 w1 m x1/\c/\Q u1/\c/\((f4 v1 u1/\z/\ ∀(i:Nat),i<s v1 u1->(if L
  i m=true then V (U (r y1-1))else A m1 i)=(o2 v1 u1 m1 m y1).getD i e/\True)/\True)/\True)
 let j4:=fun(x m x1:List Int) (y1 u1:Int)=>ah f (s x m) fun i'=>af (L i' y1) (cE (e6 x1 y1) 0 (SV.int IntKind.u32 (V (r u1))::C)) (J x1 i')
 let o5:=fun(x m x1:List Int) (y1 u1:Int)=>c/\Q x/\c/\((f4 m x/\z/\ ∀(i:Nat),i<s m x->(if L i y1=true then V (r u1)else A x1 i)=(j4 m x x1
  y1 u1).getD i e/\True)/\True)/\True
 let o6:=fun(x m x1 y1:List Int) (u1 v1 w1 m1:Int)=>e4 x m u1 v1 w1=false->g4 u1 x1 m/\y u1<s x1 m/\ab 2 (inv1 x1 m (d8 u1) (g1 x1 m x u1 v1 w1)
  (j4 x1 m y1 u1 m1)/\g5 u1/\g6 x1 m u1/\c/\e5 x1 m x u1 v1 w1/\o5 m x1 y1 u1 m1)
 let o7:=fun(x m x1:Int) (y1 u1 v1 w1:List Int)=>h5 x y1=false->inv2 u1 y1 m (r x1) (U (x+M y1))/\(r x1).toNat<x1.toNat/\ab 4 (p u1 y1/\ab 3
  (q y1/\k u1 y1/\v y1/\h y1/\True/\w y1/\t y1/\o m/\True/\c6 x1/\sm (U (x+M y1))/\k6))/\c/\e3 u1 v1/\N y1 u1 w1
 let g7:=fun(x:Int) (m:List Int)=>W (d1 x m-2)
 let e7:=fun(x:Int) (m:List Int)=>0+(g7 x m).toNat
 let o8:=fun(x m:Int) (x1 y1:List Int)=>bits BinOp.or IntKind.u64 (U (x*4294967296)) (U (x1.getD (e7 m y1) e))
 let j5:=fun(x m x1:Int) (y1 u1:List Int)=>decide (U (x*h1 y1)>o8 m x1 u1 y1)
 let c9:=fun(x m x1:Int) (y1 u1 v1:List Int)=>o x/\t y1/\sm (U (x*h1 y1))/\o m/\sm (U (m*4294967296))/\k u1 y1/\o x1/\h y1/\sm (d1 x1 y1)/\sm
  (g7 x1 y1)/\sm (e7 x1 y1)/\sm (v1.getD (e7 x1 y1) e)/\sm (U (v1.getD (e7 x1 y1) e))/\sm (o8 m x1 v1 y1)/\sm (j5 x m x1 y1 v1)/\ab 149 True
 let o9:=fun(x m x1:Int) (y1 u1 v1:List Int)=>True/\B/\B/\B/\ab 96 (c9 x m x1 y1 u1 v1)
 let p0:=fun(x m x1:Int) (y1:List Int)=>U (U (x*K y1 m)+x1)/4294967296
 let p1:=fun(x m:List Int) (x1 y1 u1 v1 w1:Int)=>U (U (O x x1 y1-U (V (U (U (u1*K m x1)+v1))))-w1)/9223372036854775808
 let p2:=fun(x m x1:List Int) (y1 u1 v1 w1 m1:Int)=>ah f (u x) fun i'=>af (d6 i' y1 u1) (cE (h7 m y1 u1) 0 (SV.int IntKind.u32 (V (U (U (O m y1
  u1-U (V (U (U (v1*K x1 y1)+w1))))-m1)))::C)) (J m i')
 let p3:=fun(x m x1:List Int) (y1 u1:Int)=>ah f (s x m) fun i'=>af (L i' y1) (cE (e6 x1 y1) 0 (SV.int IntKind.u32 (V u1)::C)) (J x1 i')
 let c1:=fun(x:List Int)=>(g x).toNat
 let p4:=ab 253 True
 let j6:=fun(x:Int) (m:List Int)=>0<=x/\x< ↑(c1 m)
 let p5:=fun(x:List Int)=>decide (sf x>0)
 let j7:=fun(x m:List Int) (x1:Int)=>j3 x x1/2^min (U (sf m)).toNat 32
 let j8:=fun(x m x1:List Int) (y1:Int)=>cE (e6 x y1) 0 (SV.int IntKind.u32 (j7 m x1 y1)::C)
 let p6:=fun(x:Int) (m x1 y1:List Int)=>bits BinOp.or IntKind.u32 (if decide (y x=y x)=true then j7 m x1 x else j3 y1 x) (V (m.getD (0+(F x).toNat)
  e*2^min (U (W (32-sf x1))).toNat 32))
 let p7:=fun(x m x1:List Int) (y1:Int)=>ah f (d x) fun i'=>af (L i' y1) (cE (af (decide (y y1=y y1)) (j8 m x1 x y1) (e6 m y1)) 0 (SV.int
  IntKind.u32 (p6 y1 x1 x m)::C)) (af (L i' y1) (j8 m x1 x y1) (J m i'))
 let p8:=fun(x m:List Int) (x1:Int)=>ab 4 (p x m/\(e2/\sm (c1 m))/\ab 2 (q m/\k x m/\True/\h m/\ab 16 (c8 x1/\p4)))
 let p9:=fun(x:Nat) (m:Int) (x1 y1 u1:List Int)=>if L x m=true then j7 x1 y1 m else A u1 x
 let q0:=fun(x m x1:List Int) (y1:Int)=>ah f (d x) fun i'=>af (L i' y1) (j8 m x1 x y1) (J m i')
 ab 3 (((d9 a/\d9 b)/\pO (rr a)/\pO (rr b))/\True/\(j9 a b=true->g8 a/\(d a<=140737488355328/\d a*4<=140737488355328)/\ab 2 ((0+d a<=d a/\
  g8 a)/\((qL a b).length=0/\(d a=(rL a b).length/\ ∀(i:Nat),i<d a->a.getD (0+i) 0=g9 a b i/\True)/\True)/\True))/\(j9 a b=false->True/\(k0
  b=true->(k1/\0<g b)/\ab 2 (((d9 a/\True)/\zO (rr a) (e0 b))/\ab 3 ((1<=1/\ ∀(i:Nat),i<1->e8)/\(((vq (rr a) (e0 b)).length=(qL a b).length
  /\ ∀(i:Nat),i<(vq (rr a) (e0 b)).length->(vq (rr a) (e0 b)).getD i 0=(qL a b).getD i 0/\True)/\(1=(rL a b).length/\ ∀(i:Nat),i<1->nv (rr a)
  %e0 b=g9 a b i/\True)/\True)/\True)))/\(k0 b=false->(0<=c2 b/\c2 b<g b)/\True/\(True/\pq (b.getD (c2 b).toNat 0))/\ab 3 (((d9 a/\True)/\Ad
  (rr a) (sf b))/\ab 2 (((d9 b/\True)/\Ad (rr b) (sf b))/\(k1/\0<g b/\g b<= ↑(d0 b))/\P/\True/\(sm (e1 a b)/\0<=e1 a b/\e1 a b<=9223372036854775807
  /\4*e1 a b<=281474976710656)/\True/\(0<=c2 b/\c2 b<h0 b)/\0+(c2 b).toNat<d0 b/\(0<=e9 b/\e9 b<h0 b)/\0+(e9 b).toNat<d0 b/\P/\True/\(inv1
  a b (mm a b) (k2 a b) (ah f (s a b) f0)/\ab 4 (p a b/\ab 3 (q b/\k a b/\v b/\h b/\True/\w b/\t b/\mm a b=mm a b/\k3))/\c/\((f1 a b=u a/\z/\
  ∀(i:Nat),i<f1 a b->(Wb a b).getD i 0=(k2 a b).getD i e/\True)/\True)/\c/\Q b/\c/\((c3 a b=s a b/\z/\ ∀(i:Nat),i<c3 a b->0=(ah f (s
  a b) f0).getD i e/\True)/\True)/\True)/\ ∀(n:Int) (l l_1:List Int),inv1 a b n l l_1->True/\(k5 n=true->G n b a/\H n b a/\R/\(0<=f2 n b/\f2 n b
  <d2 a b)/\0+(f2 n b).toNat<u a/\P/\M b≠0/\M b≠0/\P/\(inv2 a b n (U ((f3 l b n).tdiv (M b))) ((f3 l b n).tmod (M b))/\ab 4 (p a b/\ab 3 (q b/\
  k a b/\v b/\h b/\True/\w b/\t b/\o n/\True/\sm (U ((f3 l b n).tdiv (M b)))/\sm ((f3 l b n).tmod (M b))/\k6))/\c/\e3 a l/\N b a l_1)/\ ∀(n_1 n_2:Int),
  inv2 a b n n_1 n_2->(k7 n_1=true->ab 4 ((h5 n_2 b=true->ab 2 ((kh a b n (r n_1) 0 0 0 (f6 a l)/\ab 4 (p a b/\ab 3 (q b/\k a b/\v b/\h b/\True
  /\w b/\t b/\o n/\True/\c6 n_1/\True/\B/\B/\B/\k8))/\h6 a l b l_1)/\ ∀(n_3 n_4 n_5:Int) (l:List Int),kh a b n (r n_1) n_3 n_4 n_5 l->True/\(c7
  n_3 b->d3 n_3 b/\d4 n_3 b/\True/\R/\True/\D n_3 n a b/\E n_3 n a/\True/\d5/\D n_3 n a b/\E n_3 n a/\ab 2 (kh a b n (r n_1) (F n_3) (f8 n_1 n_3 n_4
  b) (f9 l b n_3 n n_1 n_4 n_5) (h8 a l b n_3 n n_1 n_4 n_5)/\c0 b n_3/\ab 4 (p a b/\ab 3 (q b/\k a b/\v b/\h b/\True/\w b/\t b/\o n/\True/\c6 n_1/\
  True/\sm (f9 l b n_3 n n_1 n_4 n_5)/\sm (f8 n_1 n_3 n_4 b)/\c8 n_3/\k8))/\k9 a l b l_1 n_3 n n_1 n_4 n_5))/\(d7 n_3 b->G n b a/\H n b a/\True/\G n b a
  /\H n b a/\True/\d5/\True/\(e4 l b n n_4 n_5=true->ab 3 ((h9 a b l n n_4 n_5/\ab 4 (p a b/\ab 3 (q b/\k a b/\v b/\h b/\True/\w b/\t b/\o n/\True
  /\g2 n_1/\ab 7 (B/\B/\o0)))/\c/\e5 a b l n n_4 n_5/\N b a l_1)/\ ∀(n_6 n_7:Int) (l:List Int),mP a b n n_6 n_7 l->True/\(c7 n_6 b->D n_6 n a b/\
  E n_6 n a/\d3 n_6 b/\d4 n_6 b/\P/\R/\D n_6 n a b/\E n_6 n a/\ab 2 (j0 a b l n n_6 n_7/\c0 b n_6/\ab 4 (p a b/\ab 3 (q b/\k a b/\v b/\h b/\True/\
  w b/\t b/\o n/\True/\g2 n_1/\ab 7 (sm (g3 l b n_6 n n_7)/\c8 n_6/\o0)))/\j1 a l b l_1 n_6 n n_7))/\o4 n_6 n n_7 n_1 b a l l_1))/\o6 l b a l_1 n n_4 n_5
  n_1)))/\o7 n_2 n n_1 b a l l_1))/\(k7 n_1=false->R/\(0<=g7 n b/\g7 n b<d2 a b)/\e7 n b<u a/\True/\(j5 n_1 n_2 n b l=true->ab 3 ((h5 n_2 b=true
  ->ab 2 ((kh a b n (r n_1) 0 0 0 (f6 a l)/\ab 4 (p a b/\ab 3 (q b/\k a b/\v b/\h b/\True/\w b/\t b/\o n/\True/\c6 n_1/\o9 n_1 n_2 n b a l))/\h6
  a l b l_1)/\ ∀(n_3 n_4 n_5:Int) (l_2:List Int),kh a b n (r n_1) n_3 n_4 n_5 l_2->True/\(c7 n_3 b->d3 n_3 b/\d4 n_3 b/\True/\R/\True/\D n_3 n a b
  /\E n_3 n a/\True/\d5/\D n_3 n a b/\E n_3 n a/\ab 2 (kh a b n (r n_1) (F n_3) (f8 n_1 n_3 n_4 b) (f9 l_2 b n_3 n n_1 n_4 n_5) (h8 a l_2 b n_3 n n_1 n_4 n_5)
  /\c0 b n_3/\ab 4 (p a b/\ab 3 (q b/\k a b/\v b/\h b/\True/\w b/\t b/\o n/\True/\c6 n_1/\True/\sm (f9 l_2 b n_3 n n_1 n_4 n_5)/\sm (f8 n_1 n_3 n_4
  b)/\c8 n_3/\ab 96 (c9 n_1 n_2 n b a l)))/\k9 a l_2 b l_1 n_3 n n_1 n_4 n_5))/\(d7 n_3 b->G n b a/\H n b a/\True/\G n b a/\H n b a/\True/\d5/\True/\
  (e4 l_2 b n n_4 n_5=true->ab 3 ((h9 a b l_2 n n_4 n_5/\ab 4 (p a b/\ab 3 (q b/\k a b/\v b/\h b/\True/\w b/\t b/\o n/\True/\g2 n_1/\ab 7 (B/\B
  /\ab 91 (c9 n_1 n_2 n b a l))))/\c/\e5 a b l_2 n n_4 n_5/\N b a l_1)/\ ∀(n_6 n_7:Int) (l_3:List Int),mP a b n n_6 n_7 l_3->True/\(c7 n_6 b->D n_6
  n a b/\E n_6 n a/\d3 n_6 b/\d4 n_6 b/\P/\R/\D n_6 n a b/\E n_6 n a/\ab 2 (j0 a b l_3 n n_6 n_7/\c0 b n_6/\ab 4 (p a b/\ab 3 (q b/\k a b/\v b/\h
  b/\True/\w b/\t b/\o n/\True/\g2 n_1/\ab 7 (sm (g3 l_3 b n_6 n n_7)/\c8 n_6/\ab 91 (c9 n_1 n_2 n b a l))))/\j1 a l_3 b l_1 n_6 n n_7))/\o4 n_6 n n_7
  n_1 b a l_3 l_1))/\o6 l_2 b a l_1 n n_4 n_5 n_1)))/\o7 n_2 n n_1 b a l l_1))/\(j5 n_1 n_2 n b l=false->ab 2 ((kh a b n n_1 0 0 0 (f6 a l)/\ab 4 (p a b
  /\ab 3 (q b/\k a b/\v b/\h b/\True/\w b/\t b/\o n/\True/\o n_1/\o9 n_1 n_2 n b a l))/\h6 a l b l_1)/\ ∀(n_3 n_4 n_5:Int) (l_2:List Int),kh a
  b n n_1 n_3 n_4 n_5 l_2->True/\(c7 n_3 b->d3 n_3 b/\d4 n_3 b/\True/\R/\True/\D n_3 n a b/\E n_3 n a/\True/\d5/\D n_3 n a b/\E n_3 n a/\ab 2 (kh
  a b n n_1 (F n_3) (p0 n_1 n_3 n_4 b) (p1 l_2 b n_3 n n_1 n_4 n_5) (p2 a l_2 b n_3 n n_1 n_4 n_5)/\c0 b n_3/\ab 4 (p a b/\ab 3 (q b/\k a b/\v b/\h b/\True
  /\w b/\t b/\o n/\True/\o n_1/\True/\sm (p1 l_2 b n_3 n n_1 n_4 n_5)/\sm (p0 n_1 n_3 n_4 b)/\c8 n_3/\ab 96 (c9 n_1 n_2 n b a l)))/\c/\((c4 a/\z/\ ∀(i
  :Nat),c5 i a->(if d6 i n_3 n=true then V (U (U (O l_2 n_3 n-U (V (U (U (n_1*K b n_3)+n_4))))-n_5))else A l_2 i)=(p2 a l_2 b n_3 n n_1 n_4 n_5).getD
  i e/\True)/\True)/\N b a l_1))/\(d7 n_3 b->G n b a/\H n b a/\True/\G n b a/\H n b a/\True/\d5/\True/\(e4 l_2 b n n_4 n_5=true->ab 3 ((h9 a b l_2
  n n_4 n_5/\ab 4 (p a b/\ab 3 (q b/\k a b/\v b/\h b/\True/\w b/\t b/\o n/\True/\c6 n_1/\ab 7 (B/\B/\ab 91 (c9 n_1 n_2 n b a l))))/\c/\e5 a b l_2
  n n_4 n_5/\N b a l_1)/\ ∀(n_6 n_7:Int) (l_3:List Int),mP a b n n_6 n_7 l_3->True/\(c7 n_6 b->D n_6 n a b/\E n_6 n a/\d3 n_6 b/\d4 n_6 b/\P/\R/\
  D n_6 n a b/\E n_6 n a/\ab 2 (j0 a b l_3 n n_6 n_7/\c0 b n_6/\ab 4 (p a b/\ab 3 (q b/\k a b/\v b/\h b/\True/\w b/\t b/\o n/\True/\c6 n_1/\ab 7
  (sm (g3 l_3 b n_6 n n_7)/\c8 n_6/\ab 91 (c9 n_1 n_2 n b a l))))/\j1 a l_3 b l_1 n_6 n n_7))/\(d7 n_6 b->G n b a/\H n b a/\G n b a/\H n b a/\True/\g4 n
  a b/\y n<s a b/\ab 2 (inv1 a b (d8 n) (j2 a b l_3 n n_7) (j4 a b l_1 n n_1)/\g5 n/\g6 a b n/\c/\o3 a b l_3 n n_7/\o5 b a l_1 n n_1))))/\(e4 l_2 b n n_4
  n_5=false->g4 n a b/\y n<s a b/\ab 2 (inv1 a b (d8 n) (g1 a b l_2 n n_4 n_5) (p3 a b l_1 n n_1)/\g5 n/\g6 a b n/\c/\e5 a b l_2 n n_4 n_5/\c/\Q b/\
  c/\((f4 a b/\z/\ ∀(i:Nat),i<s a b->(if L i n=true then V n_1 else A l_1 i)=(p3 a b l_1 n n_1).getD i e/\True)/\True)/\True)))))))/\(k5 n=false
  ->(h b/\0<=g b/\g b<=9223372036854775807/\4*g b<=281474976710656)/\ab 2 ((rC a b 0 (ah f (d b) f0)/\ab 4 (p a b/\(e2/\sm (c1 b))/\ab 2 (q b/\
  k a b/\True/\h b/\ab 16 (B/\p4)))/\c/\e3 a l/\c/\Q b/\c/\f5 a b l_1/\c/\((c1 b=d b/\z/\ ∀(i:Nat),i<c1 b->0=(ah f (d b) f0).getD i e/\
  True)/\True)/\True)/\ ∀(n:Int) (l_2:List Int),rC a b n l_2->True/\(c7 n b->(0<=n/\n<d2 a b)/\y n<u a/\0<=U (sf b)/\j6 n b/\y n<d b/\ab
  2 ((p5 b=true->j6 n b/\y n<d b/\(0<=F n/\F n<d2 a b)/\0+(F n).toNat<u a/\0<=U (W (32-sf b))/\j6 n b/\y n<d b/\P/\True/\rC a b (F n)
  (p7 b l_2 l n)/\c0 b n/\p8 a b n/\c/\e3 a l/\c/\Q b/\c/\f5 a b l_1/\c/\((d b=d b/\z/\ ∀(i:Nat),i<d b->(if L i n=true then p6 n l b l_2 else
  p9 i n l b l_2)=(p7 b l_2 l n).getD i e/\True)/\True)/\True)/\(p5 b=false->True/\rC a b (F n) (q0 b l_2 l n)/\c0 b n/\p8 a b n/\c/\e3 a l/\c/\Q
  b/\c/\f5 a b l_1/\c/\((d b=d b/\z/\ ∀(i:Nat),i<d b->p9 i n l b l_2=(q0 b l_2 l n).getD i e/\True)/\True)/\True)))/\(d7 n b->True/\(0+c3 a
  b<=s a b/\ ∀(i:Nat),i<s a b->e8)/\(0+c1 b<=d b/\g8 b)/\((c3 a b=(qL a b).length/\ ∀(i:Nat),i<c3 a b->l_1.getD (0+i) e=(qL a b).getD i
  0/\True)/\(c1 b=(rL a b).length/\ ∀(i:Nat),i<c1 b->l_2.getD (0+i) e=g9 a b i/\True)/\True)/\True)))))))))=Se a b:=by kernel_rfl
structure Div (a b : List Int) : Prop where
 n2 : 2 <= b.length
 le : b.length <= a.length
 HU : a.length <= 1000000
 da : cO a
 db : cO b
 s0 : 0 <= rX b
 s1 : rX b < 32
 v1 : pw (b.length - 1) <= v0 b
 v2 : v0 b < pw b.length
 u1 : 0 <= u0 a b
 u2 : u0 a b < pw (a.length + 1)
 u3 : u0 a b < v0 b * pw (a.length - b.length + 1)
theorem vW {a b:List Int} (h:tY a b):mU a/\mU b/\0<nv b:=by unfold tY at h;exact h
theorem SR {a b:List Int} (h:tY a b) (hle:nv b<=nv a) (hb:b.length≠1):Div a b:=by
 obtain⟨h1,h2,h3⟩:=vW h;have ca:=jV h1;have cb:=jV h2;have hbn:b≠[]:=by intro e;subst e;simp [nv]at h3
 have hbl:2<=b.length:=by
  have:b.length≠0:=fun e=>hbn (Kr e)
  omega
 have hal:b.length<=a.length:=by
  rcases Kv a.length b.length with h|h
  . have:=w9 ca cb h;omega
  . exact h
 have dt:=bH cb.1 (b.length-1);have hnz:=cb.2 hbn;have hbd:=My dt.1 dt.2;have hs:rX b=32-bl (b.getD (b.length-1) 0):=by unfold rX;rfl
 have h1le:=hbd.2.2 (by omega);have p2:=two_pos (rX b).toNat;have vb:=fV cb.1;have va:=fV ca.1;have cp:=nq cb hbn;have hv1:nv b<=v0 b:=by
  unfold v0;have:nv b*1<=nv b*2^(rX b).toNat:=Jt (by omega) vb.1;omega
 have htop:b.getD (b.length-1) 0<2^(bl (b.getD (b.length-1) 0)).toNat:=by
  have e:bl (b.getD (b.length-1) 0)=(wL (b.getD (b.length-1) 0).natAbs:Int):=by unfold bl;rfl
  have:=HK (J1 (wL (b.getD (b.length-1) 0).natAbs));rw [e,K7];have h2:(((b.getD (b.length-1) 0).natAbs:Nat):Int)<((2^wL (b.getD (b.length-1) 0).natAbs:Nat):Int):=by exact_mod_cast this
  simp only [Int.natCast_pow,Int.cast_ofNat_Int]at h2;omega
 have hv2:v0 b<pw b.length:=by
  have e1:nv b=nv (b.take (b.length-1))+pw (b.length-1)*b.getD (b.length-1) 0:=by
   have:=fv b (b.length-1)
   rwa [show b.length-1+1=b.length by omega,Jz (J1 _)]at this
  have e2:=cm cb.1 (b.length-1);have e3:pw (b.length-1)*(b.getD (b.length-1) 0+1)<=pw (b.length-1)*2^(bl (b.getD (b.length-1) 0)).toNat:=Jt (by omega) (by have:=aE (b.length-1);omega);rw [Kg,Ke]at e3;have e4:nv b<pw (b.length-1)*2^(bl (b.getD (b.length-1) 0)).toNat:=by omega
  have e5:=X8 e4 p2;rw [Jk,<-Int.pow_add,show(bl (b.getD (b.length-1) 0)).toNat+(rX b).toNat=32 by omega,show(2:Int)^32=4294967296 from rfl]at e5;unfold v0;have e6:pw b.length=4294967296*pw (b.length-1):=by rw [<-bD];congr 1;omega
  rw [e6];omega
 have hu1:0<=u0 a b:=by unfold u0;exact Ja va.1 (by omega)
 refine⟨hbl,hal,iC h1,ca.1,cb.1,by omega,by omega,by omega,hv2,hu1,?_,?_⟩
 . unfold u0;exact Mh ca.1 (by omega)
 . unfold u0 v0;have e1:nv a*2^(rX b).toNat<pw a.length*2^(rX b).toNat:=X8 va.2 p2;have e2:pw (b.length-1)*pw (a.length-b.length+1)<=nv b*pw (a.length-b.length+1):=Jh cp (by have:=aE (a.length-b.length+1);omega);rw [<-gG,show b.length-1+(a.length-b.length+1)=a.length by omega]at e2;have e3:pw a.length*2^(rX b).toNat<=nv b*pw (a.length-b.length+1)*2^(rX b).toNat:=Jh e2 (by omega);rw [Jk (nv b),J6 (2^(rX b).toNat),<-Int.mul_assoc (nv b)]
   omega
section
variable {a b : List Int} (c : Div a b)
include c
theorem Div.vp :0<v0 b:=by have:=c.v1;have:=aE (b.length-1);omega
theorem Div.hi (j:Nat):0<=KA a b j/\KA a b j<v0 b:=by
 unfold KA;exact⟨Jm _ (by have:=c.vp;omega),Jo _ c.vp⟩
theorem Div.wb (j:Nat):0<=bV a b j/\bV a b j<v0 b*4294967296:=by
 have:=c.hi (j+1);unfold bV;omega
omit c in
theorem EJ (j:Nat):u0 a b/pw j=v0 b*(4294967296*(u0 a b/pw (j+1)/v0 b))+bV a b j:=by
 have h1:=Qs (u0 a b/pw (j+1)) (v0 b);have h2:u0 a b/pw j=u0 a b/pw (j+1)*4294967296+(u0 a b/pw j)%4294967296:=by
  rw [<-cq];omega
 unfold bV KA;rw [X7];generalize u0 a b/pw (j+1)/v0 b=X at*
 generalize (u0 a b/pw (j+1))%v0 b=Y at*
 generalize (u0 a b/pw j)%4294967296=d at*
 omega
omit c in
theorem O9 (j:Nat):KA a b j=bV a b j%v0 b:=by
 conv=>lhs;unfold KA
 rw [EJ j,Int.mul_add_emod_self_left]
theorem Div.O6 (j:Nat):0<=bV a b j/v0 b/\bV a b j/v0 b<4294967296:=by
 have h:=c.wb j;have:=c.vp;exact⟨Kb h.1 (by omega),(Kl this).2 (by omega)⟩
theorem Div.Ud (j:Nat):u0 a b/v0 b/pw j=4294967296*(u0 a b/v0 b/pw (j+1))+bV a b j/v0 b:=by
 have hv:=c.vp;rw [Qd (by omega),J6,<-Int.ediv_ediv_of_nonneg (by have:=aE j;omega),EJ j,Int.mul_add_ediv_left _ _ (by omega)];rw [Qd (by omega) (x:=u0 a b) (y:=v0 b),J6 (v0 b),<-Int.ediv_ediv_of_nonneg (by have:=aE (j+1);omega)]
omit c in
theorem mod_succ (z:Int) (i:Nat):z%pw (i+1)=z%pw i+pw i*(z/pw i%4294967296):=by
 have h1:=X2 z (pw (i+1));have h2:=X2 z (pw i);have h3:=X2 (z/pw i) 4294967296;rw [h1,h2,h3,cq,bD,Qm,<-Int.mul_assoc,J6 (pw i) 4294967296];omega
omit c in
theorem NB {n k:Nat} {z:Int} (h0:0<=z) (h1:z<pw n):dg (n+k) z=dg n z++List.replicate k 0:=by
 rw [G8,Qq h0 h1,CE]
omit c in
theorem AG {n k m:Nat} {z:Int} (h0:0<=z) (h1:z<pw n) (hm:m=n+k):dg m z=dg n z++List.replicate k 0:=by rw [hm];exact NB h0 h1
omit c in
theorem M1 (z:Int):dg 0 z=[]:=by simp [dg]
omit c in
theorem FK {j:Int} {u q:List Int} (h:inv1 a b j u q):u.length=a.length+1/\q.length=a.length-b.length+1:=by
 unfold inv1 at h;obtain⟨h1,h2,rfl,rfl⟩:=h;simp;omega
theorem Div.V5 :inv1 a b (a.length-b.length) (dg (a.length+1) (u0 a b)) (List.replicate (a.length-b.length+1) 0):=by
 unfold inv1;have hle:=c.le;have e:((a.length:Int)-b.length+1).toNat=a.length-b.length+1:=by omega
 rw [e];refine⟨by omega,by omega,?_,?_⟩
 . have h3:KA a b (a.length-b.length+1)=u0 a b/pw (a.length-b.length+1):=by
    unfold KA;have:=sJ (m:=v0 b) c.u1 c.u3;exact Qr this.1 this.2
   rw [h3,<-G8];congr 1;omega
 . simp [dg]
theorem Div.AT {j:Int} {u q:List Int} (h:inv1 a b j u q) (hj:0<=j):u=dg j.toNat (u0 a b)++(dg (b.length+1) (Big.bV a b j.toNat)++List.replicate (a.length-j.toNat-b.length) 0):=by
 unfold inv1 at h;obtain⟨h1,h2,h3,h4⟩:=h;rw [show(j+1).toNat=j.toNat+1 by omega]at h3;have hh:=c.hi (j.toNat+1);have hv:=c.v2;rw [h3,re,Jq,AG (n:=b.length) (k:=a.length-j.toNat-b.length) hh.1 (by omega) (by omega),dg];have e1:Big.bV a b j.toNat%4294967296=u0 a b/pw j.toNat%4294967296:=by unfold bV;omega
 have e2:Big.bV a b j.toNat/4294967296=KA a b (j.toNat+1):=by unfold bV;omega
 rw [e1,e2];rfl
theorem Div.yw {j:Int} {u q u':List Int} (h:inv1 a b j u q) (hj:0<=j) (hu:u'=dg j.toNat (u0 a b)++(dg b.length (Big.bV a b j.toNat%v0 b)++List.replicate (a.length+1-j.toNat-b.length) 0)):inv1 a b (j-1) u' (q.set j.toNat (Big.bV a b j.toNat/v0 b)):=by
 unfold inv1 at h⊢;obtain⟨h1,h2,h3,h4⟩:=h;have hle:=c.le;rw [show(j+1).toNat=j.toNat+1 by omega]at h4;rw [show(j-1+1).toNat=j.toNat by omega];have hv:=c.v2;have hh:=c.hi j.toNat;rw [O9]at hh;refine⟨by omega,by omega,?_,?_⟩
 . rw [hu,O9,AG (m:=a.length+1-j.toNat) (n:=b.length) (k:=a.length+1-j.toNat-b.length) hh.1 (by omega) (by omega)]
 . rw [h4,List.replicate_succ',Jq,Xj,cG (by simp)];have hq:=c.O6 j.toNat;rw [show a.length-b.length+1-j.toNat=(a.length-b.length+1-(j.toNat+1))+1 by omega,dg,c.Ud j.toNat]
   congr 2
   . omega
   . congr 1;omega
omit c in
theorem MX {j:Int} {u q:List Int} (h:inv1 a b j u q) (hj:j<0):u=dg (a.length+1) (u0 a b%v0 b)/\q=dg (a.length-b.length+1) (nv a/nv b):=by
 unfold inv1 at h;obtain⟨h1,h2,h3,h4⟩:=h;have e:j= -1:=by omega
 subst e;rw [show(-1+1:Int).toNat=0 from rfl]at h3 h4;simp only [Xf,KA,fh,Int.ediv_one,List.replicate_zero,Jj,M1]at h3 h4;refine⟨h3,?_⟩;rw [h4]
 congr 1
 unfold u0 v0;exact Int.mul_ediv_mul_of_pos_left _ _ (two_pos _)
omit c in
theorem vdig (i:Nat) (hi:i<b.length+1):(dg (b.length+1) (v0 b)).getD i 0=v0 b/pw i%4294967296:=tA _ hi
theorem Div.top :v0 b/pw (b.length-1)%4294967296=v0 b/pw (b.length-1)/\1<=v0 b/pw (b.length-1)/\v0 b/pw (b.length-1)<4294967296:=by
 have h1:=c.v1;have h2:=c.v2;have hp:=aE (b.length-1);have hn:=c.n2;have e6:pw b.length=4294967296*pw (b.length-1):=by rw [<-bD];congr 1;omega
 have h3:1<=v0 b/pw (b.length-1):=by rw [Qp hp];omega
 have h4:v0 b/pw (b.length-1)<4294967296:=(Kl hp).2 (by omega);exact⟨Qr (by omega) h4,h3,h4⟩
theorem Div.Wv {j:Int} {u q:List Int} (h:inv1 a b j u q) (hj:0<=j) {k:Nat} (hk:k<b.length+1):u.getD (j.toNat+k) 0=Big.bV a b j.toNat/pw k%4294967296:=by
 rw [c.AT h hj,J0,Jy (by simp),mL,Nat.add_sub_cancel_left,Ka (by simpa using hk),<-List.getD_eq_getElem?_getD,tA _ hk]
theorem Div.CJ (j:Nat):0<=Big.bV a b j/pw b.length/\Big.bV a b j/pw b.length<4294967296/\Big.bV a b j/pw b.length%4294967296*4294967296+Big.bV a b j/pw (b.length-1)%4294967296=Big.bV a b j/pw (b.length-1)/\Big.bV a b j/pw (b.length-1)<(v0 b/pw (b.length-1)+1)*4294967296:=by
 have hw:=c.wb j;have h2:=c.v2;have hn:=c.n2;have hb:=sJ (m:=4294967296) hw.1 (k:=b.length) (by omega);have e:Big.bV a b j/pw b.length=Big.bV a b j/pw (b.length-1)/4294967296:=by
  rw [cq];congr 2;omega
 refine⟨hb.1,hb.2,by rw [e]at hb⊢;omega,?_⟩;have hp:=aE (b.length-1);rw [Kl hp];have h3:v0 b<(v0 b/pw (b.length-1)+1)*pw (b.length-1):=by
  have:=Zi (v0 b) hp;exact this
 rw [Jk,J6 4294967296,<-Int.mul_assoc];omega
theorem Div.three (z:Int):z=(z/pw (b.length-1)*4294967296+z/pw (b.length-2)%4294967296)*pw (b.length-2)+z%pw (b.length-2):=by
 have hn:=c.n2;have e:z/pw (b.length-1)=z/pw (b.length-2)/4294967296:=by
  rw [cq];congr 2;omega
 rw [e];have h1:=Qs z (pw (b.length-2));rw [show z/pw (b.length-2)/4294967296*4294967296+z/pw (b.length-2)%4294967296=z/pw (b.length-2) by omega,J6];omega
theorem Div.Wk {j:Int}:inv2 a b j (Big.bV a b j.toNat/pw (b.length-1)/(v0 b/pw (b.length-1))) (Big.bV a b j.toNat/pw (b.length-1)%(v0 b/pw (b.length-1))):=by
 unfold inv2;obtain⟨t1,t2,t3⟩:=c.top;have hw:=c.wb j.toNat;have hp:=aE (b.length-2);refine⟨Jm _ (by omega),?_,?_,?_⟩
 . have:=Jo (Big.bV a b j.toNat/pw (b.length-1)) (show 0<v0 b/pw (b.length-1) by omega);omega
 . have:=Qs (Big.bV a b j.toNat/pw (b.length-1)) (v0 b/pw (b.length-1));rw [J6];exact this
 . exact QH hp (c.three (v0 b)) (c.three (Big.bV a b j.toNat)) (Jm _ (by omega)) (Jo _ hp) t2 (by omega) ⟨by omega,by omega⟩ hw.1 c.vp
theorem Div.XL {j g r:Int} (h:inv2 a b j g r) (hc:4294967296<=g\/r*4294967296+Big.bV a b j.toNat/pw (b.length-2)%4294967296<g*(v0 b/pw (b.length-2)%4294967296)):
 1<=g/\(4294967296<=g->r+v0 b/pw (b.length-1)<4294967296\/g-1<4294967296)/\Big.bV a b j.toNat/v0 b<=g-1/\(g-1)*(v0 b/pw (b.length-1))+(r+v0 b/pw (b.length-1))=Big.bV a b j.toNat/pw (b.length-1)/\(r+v0 b/pw (b.length-1)<4294967296->inv2 a b j (g-1) (r+v0 b/pw (b.length-1))):=by
 unfold inv2 at h⊢;obtain⟨h1,h2,h3,h4⟩:=h;obtain⟨t1,t2,t3⟩:=c.top;have hw:=c.wb j.toNat;have hp:=aE (b.length-2);have hq:=c.O6 j.toNat;have hk:=VW hp (c.three (v0 b)) (c.three (Big.bV a b j.toNat)) (Jm _ (by omega)) (Jo _ hp) c.vp hw.1 h3 hq.2 h4 hc;have e:(g-1)*(v0 b/pw (b.length-1))+(r+v0 b/pw (b.length-1))=Big.bV a b j.toNat/pw (b.length-1):=by
  rw [Int.sub_mul,K8];omega
 refine⟨by omega,fun hg=> ?_,hk,e,fun hlt=>⟨by omega,hlt,e,hk⟩⟩;have ht:=(c.CJ j.toNat).2.2.2;rcases Qe (g-1) 4294967296 with h|h
 . exact .inr h
 . left;have h5:4294967296*(v0 b/pw (b.length-1))<=(g-1)*(v0 b/pw (b.length-1)):=Jh h (by omega);rw [Qo,K8]at ht;omega
def ak (a b:List Int) (j g:Int):Prop:=0<=g/\g<4294967296/\Big.bV a b j.toNat/v0 b<=g/\(g-1)*v0 b<=Big.bV a b j.toNat
theorem Div.It {j g r:Int} (h1:Big.bV a b j.toNat/v0 b<=g) (h2:g*(v0 b/pw (b.length-1))+r=Big.bV a b j.toNat/pw (b.length-1)) (hg:g<4294967296) (hr:0<=r) (hc:4294967296<=r\/g*(v0 b/pw (b.length-2)%4294967296)<=r*4294967296+Big.bV a b j.toNat/pw (b.length-2)%4294967296):ak a b j g:=by
 unfold ak;have hq:=c.O6 j.toNat;have hp:=aE (b.length-2);obtain⟨t1,t2,t3⟩:=c.top;have hn0:0<=v0 b/pw (b.length-2)%4294967296:=by omega
 have hc':g*(v0 b/pw (b.length-2)%4294967296)<=r*4294967296+Big.bV a b j.toNat/pw (b.length-2)%4294967296:=by
  rcases hc with hc|hc
  . have h3:g*(v0 b/pw (b.length-2)%4294967296)<=4294967296*4294967296:=Qb (by omega) (by omega) hn0 (by omega);omega
  . exact hc
 refine⟨by omega,hg,h1,?_⟩;exact Vx hp (c.three (v0 b)) (c.three (Big.bV a b j.toNat)) (Jo _ hp) (Jm _ (by omega)) (Jm _ (by omega)) t2 hn0 h2 (by omega) hg hc'
omit c in
theorem DU {j g i x w:Int} {u:List Int} (hj:j.toNat+b.length<=a.length) (h:kh a b j g i x w u):u.length=a.length+1:=by
 unfold kh at h;obtain⟨h1,h2,h3,h4,rfl⟩:=h;simp;omega
omit c in
theorem FA {j i x:Int} {u:List Int} (hj:j.toNat+b.length<=a.length) (h:mP a b j i x u):u.length=a.length+1:=by
 unfold mP at h;obtain⟨h1,h2,h3,rfl⟩:=h;simp;omega
theorem Div.VA {j g:Int} {u q:List Int} (h:inv1 a b j u q) (hj:0<=j):kh a b j g 0 0 0 u:=by
 unfold kh;rw [c.AT h hj];simp [fh,Int.emod_one,M1]
omit c in
theorem get_at {l r:List Int} {x:Int} {k:Nat} (h:l.length=k):(l++x::r).getD k 0=x:=by
 subst h;rw [J0,Jy (J1 _),Nat.sub_self];rfl
theorem Div.KU {j g i x w:Int} {u:List Int} (hg0:0<=g) (hg:g<4294967296) (h:kh a b j g i x w u) (hi:i<b.length):
 0<=x/\x<4294967296/\0<=w/\w<=1/\GD (u.getD (i+j.toNat).toNat 0)/\ ∀p d,p=g*(v0 b/pw i.toNat%4294967296)+x->d=u.getD (i+j.toNat).toNat 0-p%4294967296-w->
  kh a b j g (i+1) (p/4294967296) (U d/9223372036854775808) (u.set (i+j.toNat).toNat (V (U d))):=by
 unfold kh at h⊢;obtain⟨h1,h2,h3,h4,h5⟩:=h;have hp:=aE i.toNat;have hv:=Jm (v0 b) (uE i.toNat);have hv2:=Jo (v0 b) hp;have hG:0<=g*(v0 b%pw i.toNat):=Ja hg0 hv;have hG2:g*(v0 b%pw i.toNat)<4294967296*pw i.toNat:=by
  have e1:g*(v0 b%pw i.toNat)<=g*pw i.toNat:=Jt (by omega) hg0;have e2:g*pw i.toNat<4294967296*pw i.toNat:=X8 hg hp;omega
 have hx:=sJ hG hG2;have hW:=Jm (Big.bV a b j.toNat) (uE i.toNat);have hW2:=Jo (Big.bV a b j.toNat) hp;have hM:=Jm (g*(v0 b%pw i.toNat)) (uE i.toNat);have hM2:=Jo (g*(v0 b%pw i.toNat)) hp;have hw: -1<=(Big.bV a b j.toNat%pw i.toNat-(g*(v0 b%pw i.toNat))%pw i.toNat)/pw i.toNat/\(Big.bV a b j.toNat%pw i.toNat-(g*(v0 b%pw i.toNat))%pw i.toNat)/pw i.toNat<=0:=by
  refine⟨by rw [Qp hp];omega,?_⟩;have:(Big.bV a b j.toNat%pw i.toNat-(g*(v0 b%pw i.toNat))%pw i.toNat)/pw i.toNat<1:=(Kl hp).2 (by omega);omega
 have e0:(i+(j.toNat:Int)).toNat=j.toNat+i.toNat:=by omega
 rw [e0,show(i+1).toNat=i.toNat+1 by omega];have hu:u=(dg j.toNat (u0 a b)++dg i.toNat (Big.bV a b j.toNat%pw i.toNat-(g*(v0 b%pw i.toNat))%pw i.toNat))++(Big.bV a b j.toNat/pw i.toNat%4294967296)::(dg (b.length+1-(i.toNat+1)) (Big.bV a b j.toNat/pw (i.toNat+1))++List.replicate (a.length-j.toNat-b.length) 0):=by
  rw [h5,show b.length+1-i.toNat=(b.length+1-(i.toNat+1))+1 by omega,dg,cq];simp
 have hget:u.getD (j.toNat+i.toNat) 0=Big.bV a b j.toNat/pw i.toNat%4294967296:=by
  rw [hu];exact get_at (by simp)
 rw [hget];refine⟨by omega,by omega,by omega,by omega,⟨by omega,by omega⟩,fun p d hp' hd=> ?_⟩;have eG:g*(v0 b%pw (i.toNat+1))=g*(v0 b%pw i.toNat)+pw i.toNat*(g*(v0 b/pw i.toNat%4294967296)):=by
  rw [mod_succ,Kg,X7]
 have eG2:(g*(v0 b%pw (i.toNat+1)))%pw (i.toNat+1)=(g*(v0 b%pw i.toNat))%pw i.toNat+pw i.toNat*(p%4294967296):=by
  rw [eG,mod_succ,Yg,nw]
  congr 2;congr 1;omega
 have eX:Big.bV a b j.toNat%pw (i.toNat+1)-(g*(v0 b%pw (i.toNat+1)))%pw (i.toNat+1)=Big.bV a b j.toNat%pw i.toNat-(g*(v0 b%pw i.toNat))%pw i.toNat+pw i.toNat*(Big.bV a b j.toNat/pw i.toNat%4294967296-p%4294967296):=by
  rw [eG2,mod_succ,Qm];omega
 have ed:(Big.bV a b j.toNat%pw i.toNat-(g*(v0 b%pw i.toNat))%pw i.toNat)/pw i.toNat+(Big.bV a b j.toNat/pw i.toNat%4294967296-p%4294967296)=d:=by omega
 refine⟨by omega,by omega,?_,?_,?_⟩
 . rw [eG,lH,hp',h3];congr 1;omega
 . rw [eX,lH,ed,nt];omega
 . rw [hu,cG (by simp),eX,uL,ed];have:V (U d)=d%4294967296:=by rw [iA,nt];omega
   rw [this];simp
theorem Div.Oi {j g i x w:Int} {u:List Int} (hgd:ak a b j g) (h:kh a b j g i x w u) (hi:(b.length:Int)<=i):
 GD (u.getD (j.toNat+b.length) 0)/\0<=x/\x<4294967296/\0<=w/\w<=1/\u.getD (j.toNat+b.length) 0-x-w=(Big.bV a b j.toNat-g*v0 b)/pw b.length/\
 ∀y,u.set (j.toNat+b.length) y=dg j.toNat (u0 a b)++(dg b.length (Big.bV a b j.toNat-g*v0 b)++y::List.replicate (a.length-j.toNat-b.length) 0):=by
 unfold kh at h;obtain⟨hg0,hg,hq1,hq2⟩:=hgd;obtain⟨h1,h2,h3,h4,h5⟩:=h;have e:i.toNat=b.length:=by omega
 rw [e]at h3 h4 h5;have hp:=aE b.length;have hv2:=c.v2;have hv1:=c.vp;have hvm:v0 b%pw b.length=v0 b:=Qr (by omega) hv2;rw [hvm]at h3 h4 h5;have hwt:=c.CJ j.toNat;have hG:0<=g*v0 b:=Ja hg0 (by omega);have hG2:g*v0 b<4294967296*pw b.length:=by
  have e1:g*v0 b<=g*pw b.length:=Jt (by omega) hg0;have e2:g*pw b.length<4294967296*pw b.length:=X8 hg hp;omega
 have hx:=sJ hG hG2;have hW:=Jm (Big.bV a b j.toNat) (uE b.length);have hW2:=Jo (Big.bV a b j.toNat) hp;have hM:=Jm (g*v0 b) (uE b.length);have hM2:=Jo (g*v0 b) hp;have hw: -1<=(Big.bV a b j.toNat%pw b.length-(g*v0 b)%pw b.length)/pw b.length/\(Big.bV a b j.toNat%pw b.length-(g*v0 b)%pw b.length)/pw b.length<=0:=by
  refine⟨by rw [Qp hp];omega,?_⟩;have:(Big.bV a b j.toNat%pw b.length-(g*v0 b)%pw b.length)/pw b.length<1:=(Kl hp).2 (by omega);omega
 have eT:Big.bV a b j.toNat-g*v0 b=Big.bV a b j.toNat%pw b.length-(g*v0 b)%pw b.length+pw b.length*(Big.bV a b j.toNat/pw b.length-g*v0 b/pw b.length):=by
  have e1:=Qs (Big.bV a b j.toNat) (pw b.length);have e2:=Qs (g*v0 b) (pw b.length);rw [Qm];omega
 have hu:u=(dg j.toNat (u0 a b)++dg b.length (Big.bV a b j.toNat%pw b.length-(g*v0 b)%pw b.length))++(Big.bV a b j.toNat/pw b.length)::List.replicate (a.length-j.toNat-b.length) 0:=by
  rw [h5,show b.length+1-b.length=0+1 by omega,dg,M1,Qr hwt.1 hwt.2.1];simp
 have hget:u.getD (j.toNat+b.length) 0=Big.bV a b j.toNat/pw b.length:=by
  rw [hu];exact get_at (by simp)
 rw [hget];refine⟨⟨hwt.1,hwt.2.1⟩,by omega,by omega,by omega,by omega,?_,fun y=> ?_⟩
 . rw [eT,nw];omega
 . rw [hu,cG (by simp),eT,CQ];simp
theorem Div.EV {j g:Int} (hgd:ak a b j g) (hd:0<=(Big.bV a b j.toNat-g*v0 b)/pw b.length):g=Big.bV a b j.toNat/v0 b/\Big.bV a b j.toNat-g*v0 b=Big.bV a b j.toNat%v0 b/\(Big.bV a b j.toNat-g*v0 b)/pw b.length=0:=by
 obtain⟨hg0,hg,hq1,hq2⟩:=hgd;have hp:=aE b.length;have hv:=c.vp;have hv2:=c.v2;have h0:0<=Big.bV a b j.toNat-g*v0 b:=by
  rw [Qp hp]at hd;omega
 have h1:g<=Big.bV a b j.toNat/v0 b:=by rw [Qp hv];omega
 have e:g=Big.bV a b j.toNat/v0 b:=by omega
 have e2:Big.bV a b j.toNat-g*v0 b=Big.bV a b j.toNat%v0 b:=by
  have:=Qs (Big.bV a b j.toNat) (v0 b);rw [e,J6];omega
 refine⟨e,e2,?_⟩;have h3:=Jo (Big.bV a b j.toNat) hv;rw [e2];exact Qq (by omega) (by omega)
theorem Div.Ek {j g:Int} (hgd:ak a b j g) (hd:(Big.bV a b j.toNat-g*v0 b)/pw b.length<0):g-1=Big.bV a b j.toNat/v0 b/\Big.bV a b j.toNat-g*v0 b=Big.bV a b j.toNat%v0 b-v0 b/\(Big.bV a b j.toNat-g*v0 b)/pw b.length= -1:=by
 obtain⟨hg0,hg,hq1,hq2⟩:=hgd;have hp:=aE b.length;have hv:=c.vp;have hv2:=c.v2;have h0:Big.bV a b j.toNat-g*v0 b<0:=by
  rcases Qe (Big.bV a b j.toNat-g*v0 b) 0 with h|h
  . exact h
  . have:=Kb h (show 0<=pw b.length by omega);omega
 have h1:g-1<=Big.bV a b j.toNat/v0 b:=by rw [Qp hv];omega
 have h2:Big.bV a b j.toNat/v0 b<g:=(Kl hv).2 (by omega);have e:g-1=Big.bV a b j.toNat/v0 b:=by omega
 have e2:Big.bV a b j.toNat-g*v0 b=Big.bV a b j.toNat%v0 b-v0 b:=by
  have h5:=Qs (Big.bV a b j.toNat) (v0 b);rw [<-e,J6,Int.sub_mul,K8]at h5;omega
 refine⟨e,e2,?_⟩;have h3:=Jo (Big.bV a b j.toNat) hv;have h4:=Jm (Big.bV a b j.toNat) (show v0 b≠0 by omega);have h6: -1<=(Big.bV a b j.toNat-g*v0 b)/pw b.length:=by rw [Qp hp];omega
 omega
omit c in
theorem V9 {j:Int} {u:List Int} (hu:u=dg j.toNat (u0 a b)++(dg b.length (Big.bV a b j.toNat%v0 b-v0 b)++4294967295::List.replicate (a.length-j.toNat-b.length) 0)):mP a b j 0 0 u:=by
 unfold mP;rw [hu];simp [fh,Int.emod_one,M1]
theorem Div.KG {j i x:Int} {u:List Int} (h:mP a b j i x u) (hi:i<b.length):
 0<=x/\x<=1/\GD (u.getD (i+j.toNat).toNat 0)/\ ∀s,s=u.getD (i+j.toNat).toNat 0+v0 b/pw i.toNat%4294967296+x->mP a b j (i+1) (s/4294967296) (u.set (i+j.toNat).toNat (V s)):=by
 unfold mP at h⊢;obtain⟨h1,h2,h3,h5⟩:=h;generalize Big.bV a b j.toNat%v0 b-v0 b=T at*
 have hp:=aE i.toNat;have hT:=Jm T (uE i.toNat);have hT2:=Jo T hp;have hM:=Jm (v0 b) (uE i.toNat);have hM2:=Jo (v0 b) hp;have hx:=sJ (z:=T%pw i.toNat+v0 b%pw i.toNat) (k:=i.toNat) (m:=2) (by omega) (by omega);have e0:(i+(j.toNat:Int)).toNat=j.toNat+i.toNat:=by omega
 rw [e0,show(i+1).toNat=i.toNat+1 by omega];have hu:u=(dg j.toNat (u0 a b)++dg i.toNat (T%pw i.toNat+v0 b%pw i.toNat))++(T/pw i.toNat%4294967296)::(dg (b.length-(i.toNat+1)) (T/pw (i.toNat+1))++4294967295::List.replicate (a.length-j.toNat-b.length) 0):=by
  rw [h5,show b.length-i.toNat=(b.length-(i.toNat+1))+1 by omega,dg,cq];simp
 have hget:u.getD (j.toNat+i.toNat) 0=T/pw i.toNat%4294967296:=by
  rw [hu];exact get_at (by simp)
 rw [hget];refine⟨by omega,by omega,⟨by omega,by omega⟩,fun s hs=> ?_⟩;have eS:T%pw (i.toNat+1)+v0 b%pw (i.toNat+1)=T%pw i.toNat+v0 b%pw i.toNat+pw i.toNat*(T/pw i.toNat%4294967296+v0 b/pw i.toNat%4294967296):=by
  rw [mod_succ T,mod_succ (v0 b),Kg];omega
 have es:(T%pw i.toNat+v0 b%pw i.toNat)/pw i.toNat+(T/pw i.toNat%4294967296+v0 b/pw i.toNat%4294967296)=s:=by omega
 refine⟨by omega,by omega,?_,?_⟩
 . rw [eS,lH,es]
 . rw [hu,cG (by simp),eS,uL,es,iA];simp
theorem Div.ME {j i x:Int} {u:List Int} (h:mP a b j i x u) (hi:(b.length:Int)<=i):
 x=1/\u.getD (j.toNat+b.length) 0=4294967295/\ ∀y,u.set (j.toNat+b.length) y=dg j.toNat (u0 a b)++(dg b.length (Big.bV a b j.toNat%v0 b)++y::List.replicate (a.length-j.toNat-b.length) 0):=by
 unfold mP at h;obtain⟨h1,h2,h3,h5⟩:=h;have e:i.toNat=b.length:=by omega
 rw [e]at h3 h5;have hp:=aE b.length;have hv2:=c.v2;have hv1:=c.vp;have hvm:v0 b%pw b.length=v0 b:=Qr (by omega) hv2;have hr:=Jm (Big.bV a b j.toNat) (show v0 b≠0 by omega);have hr2:=Jo (Big.bV a b j.toNat) hv1;have hT:(Big.bV a b j.toNat%v0 b-v0 b)%pw b.length=Big.bV a b j.toNat%v0 b-v0 b+pw b.length:=by
  rw [<-Int.add_emod_right];exact Qr (by omega) (by omega)
 have eS:Big.bV a b j.toNat%v0 b-v0 b+pw b.length+v0 b=Big.bV a b j.toNat%v0 b+pw b.length*1:=by omega
 rw [hT,hvm,eS]at h3 h5;rw [nw,Qq hr (by omega)]at h3;rw [Nat.sub_self,M1,Jj,CQ]at h5;have hu:u=(dg j.toNat (u0 a b)++dg b.length (Big.bV a b j.toNat%v0 b))++4294967295::List.replicate (a.length-j.toNat-b.length) 0:=by
  rw [h5];simp
 refine⟨by omega,by rw [hu];exact get_at (by simp),fun y=> ?_⟩;rw [hu,cG (by simp)];simp
end
end Go.Proofs.Big
