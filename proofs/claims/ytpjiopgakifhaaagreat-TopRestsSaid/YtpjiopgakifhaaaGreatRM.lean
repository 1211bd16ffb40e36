import Derived.Test.YtpjiopgakifhaaaGreatRA
import Derived.Test.YtpjiopgakifhaaaGreatRJ
import Derived.Test.YtpjiopgakifhaaaGreatRL
import Derived.Test.YtpjiopgakifhaaaGreatRK
set_option linter.unusedSectionVars false
set_option linter.unusedSimpArgs false
set_option linter.unusedVariables false
set_option maxRecDepth 100000
namespace Go.Proofs.Big
open Go Go.Sx Go.Proofs Tryz
variable [bW]
attribute [local irreducible] lm nv tl dg dz
def rr(l:Ω):Ω:=ah (aF .u32) l.length λi=>(aF .u32).enc (l.getD i 0)
def sf(b:Ω):Int:=(32:Int)-bl (b.getD (W (↑b.length-(1:Int))).toNat (0:Int))
def yX(b:Ω):Ω:=Lf (rr b) (sf b)
def Wb(a b:Ω):Ω:=Lf (rr a) (sf b)
def mm(a b:Ω):Int:=W (HSub.hSub (α:=Int) ↑a.length ↑b.length)
attribute [irreducible] rr sf yX Wb mm
def qL(a b:Ω):Ω:=if nv a<nv b then []else if b.length=1 then vq a (b.getD 0 0)else dg (a.length-b.length+1) (nv a/nv b)
def rL(a b:Ω):Ω:=if nv a<nv b then a else if b.length=1 then [nv a%b.getD 0 0]else dg b.length (nv a%nv b)
def tY(a b:Ω):Prop:=mU a/\mU b/\0<nv b
def rX(b:Ω):Int:=32-bl (b.getD (b.length-1) 0)
def u0(a b:Ω):Int:=nv a*2^(rX b).toNat
def v0(b:Ω):Int:=nv b*2^(rX b).toNat
def hiR(a b:Ω)(j:Nat):Int:=(u0 a b/pw j)%v0 b
def bV(a b:Ω)(j:Nat):Int:=hiR a b (j+1)*4294967296+(u0 a b/pw j)%4294967296
def inv1(a b:Ω)(j:Int)(u q:Ω):Prop:= -1<=j/\j+b.length<=a.length/\u=dg (j+1).toNat (u0 a b)++dg (a.length+1-(j+1).toNat) (hiR a b (j+1).toNat)/\q=List.replicate (j+1).toNat 0++dg (a.length-b.length+1-(j+1).toNat) (u0 a b/v0 b/pw (j+1).toNat)
def inv2(a b:Ω)(j g r:Int):Prop:=0<=r/\r<4294967296/\g*(v0 b/pw (b.length-1))+r=bV a b j.toNat/pw (b.length-1)/\bV a b j.toNat/v0 b<=g
def kh(a b:Ω)(j g i c w:Int)(u:Ω):Prop:=0<=i/\i<=b.length/\c=g*(v0 b%pw i.toNat)/pw i.toNat/\w= -((bV a b j.toNat%pw i.toNat-(g*(v0 b%pw i.toNat))%pw i.toNat)/pw i.toNat)/\
 u=dg j.toNat (u0 a b)++(dg i.toNat (bV a b j.toNat%pw i.toNat-(g*(v0 b%pw i.toNat))%pw i.toNat)++(dg (b.length+1-i.toNat) (bV a b j.toNat/pw i.toNat)++List.replicate (a.length-j.toNat-b.length) 0))
def mP(a b:Ω)(j i c:Int)(u:Ω):Prop:=0<=i/\i<=b.length/\c=((bV a b j.toNat%v0 b-v0 b)%pw i.toNat+v0 b%pw i.toNat)/pw i.toNat/\
 u=dg j.toNat (u0 a b)++(dg i.toNat ((bV a b j.toNat%v0 b-v0 b)%pw i.toNat+v0 b%pw i.toNat)++(dg (b.length-i.toNat) ((bV a b j.toNat%v0 b-v0 b)/pw i.toNat)++4294967295::List.replicate (a.length-j.toNat-b.length) 0))
def rC(a b:Ω)(i:Int)(r:Ω):Prop:=0<=i/\i<=b.length/\r=dg i.toNat (nv a%nv b)++List.replicate (b.length-i.toNat) 0
attribute [irreducible] qL rL tY rX u0 v0 hiR bV inv1 inv2 kh mP rC
def c381:bB:=ow To.dec (λa=>tY a.1 a.2) (λa=>.df [lS (qL a.1 a.2),lS (rL a.1 a.2)])
def Wm:List (Nat×bB):=(381,c381)::UZ
def ZJ(a:Ω)(b:Ω):List kM:=[⟨.unit,.list [.int .i64 (.tm 15),.iQ i32 (a.length+1) 0 0,.iQ i32 (a.length-b.length+1) 2 0],λ_ (x:Int×Ω×Ω)=>inv1 a b x.1 x.2.1 x.2.2,λ_ (x:Int×Ω×Ω)=>(x.1+1).toNat⟩,⟨.int .i64 (.tm 15),.list [.int .u64 (.tm 17),.int .u64 (.tm 18)],λ(j:Int)(x:Int×Int)=>inv2 a b j x.1 x.2,λ_ (x:Int×Int)=>x.1.toNat⟩,⟨.list [.int .i64 (.tm 15),.int .u64 (.tm 17)],.list [.int .i64 (.tm 21),.int .u64 (.tm 20),.int .u64 (.tm 19),.iQ i32 (a.length+1) 0 0],λ(y:Int×Int)(x:Int×Int×Int×Ω)=>kh a b y.1 y.2 x.1 x.2.1 x.2.2.1 x.2.2.2,λ(y:Int×Int)(x:Int×Int×Int×Ω)=>(b.length-x.1).toNat⟩,⟨.int .i64 (.tm 15),.list [.int .i64 (.tm 26),.int .u64 (.tm 25),.iQ i32 (a.length+1) 0 0],λ(j:Int)(x:Int×Int×Ω)=>mP a b j x.1 x.2.1 x.2.2,λ(j:Int)(x:Int×Int×Ω)=>(b.length-x.1).toNat⟩,⟨.unit,.list [.int .i64 (.tm 28),.iQ i32 b.length 3 0],λ_ (x:Int×Ω)=>rC a b x.1 x.2,λ_ (x:Int×Ω)=>(b.length-x.1).toNat⟩]
def Se(a:Ω)(b:Ω):Prop:=fQ UZ f381 (ZJ a b) [lS a,lS b] (.df [lS (qL a b),lS (rL a b)])
theorem NH(a:Ω)(b:Ω):(
 let d:=λ(x:Ω)=>x.length
 let e8:=true=true
 let d9:=λ(x:Ω)=>∀i,i<d x->e8/\True
 let j9:=λ(x m:Ω)=>decide (nU (rr x) (rr m)<0)
 let g8:=λ(x:Ω)=>∀(j:Nat),j<d x->e8
 let g9:=λ(x m:Ω)(X:Nat)=>(rL x m).getD X 0
 let g:=λ(x:Ω)=>(↑(d x):Int)
 let k0:=λ(x:Ω)=>g x==1
 let k1:=(0:Int)<=(0:Int)
 let e0:=λ(x:Ω)=>x.getD 0 0
 let c2:=λ(x:Ω)=>W (g x-1)
 let d0:=λ(x:Ω)=>(yX x).length
 let P:=ru true
 let e1:=λ(x m:Ω)=>W (mm x m+1)
 let h0:=λ(x:Ω)=>(↑(g x-0).toNat:Int)
 let e9:=λ(x:Ω)=>W (g x-2)
 let f:=i32
 let u:=λ(x:Ω)=>d x+1
 let C:=([]:List SV)
 let q1:=λ(x m:Ω)(X:Nat)=>SV.int .u32 ((Wb x m).getD X 0)::C
 let k2:=λ(x m:Ω)=>ah f (u x) λi=>q1 x m i
 let s:=λ(x m:Ω)=>d x-d m+1
 let f0:=(λx=>SV.int .u32 0::C:Nat->List SV)
 let e2:=sm 0
 let c3:=λ(x m:Ω)=>(e1 x m).toNat
 let p:=λ(x m:Ω)=>e2/\sm (c3 x m)
 let q:=λ(x:Ω)=>sf x=sf x
 let f1:=λ(x m:Ω)=>(Wb x m).length
 let k:=λ(x m:Ω)=>e2/\sm (f1 x m)
 let v:=λ(x:Ω)=>e2/\sm (g x-0).toNat
 let h:=λ(x:Ω)=>g x=g x
 let M:=λ(x:Ω)=>U ((yX x).getD (0+(c2 x).toNat) 0)
 let w:=λ(x:Ω)=>sm (M x)
 let h1:=λ(x:Ω)=>U ((yX x).getD (0+(e9 x).toNat) 0)
 let t:=λ(x:Ω)=>sm (h1 x)
 let k3:=ab 266 True
 let k4:=([]:List (Option (Nat×Nat)))
 let c:=k4=k4
 let h2:=f.n
 let z:=1=h2
 let e:=f.qW
 let Q:=λ(x:Ω)=>(sm (d0 x)/\sm 1/\∀i,i<d0 x->sm ((yX x).getD i 0)/\True)/\True
 let k5:=λ(x:Int)=>decide (x>=0)
 let d1:=λ(x:Int)(m:Ω)=>W (x+g m)
 let d2:=λ(x m:Ω)=>(↑(f1 x m):Int)
 let G:=λ(x:Int)(m X:Ω)=>0<=d1 x m/\d1 x m<d2 X m
 let h3:=λ(x:Int)(m:Ω)=>0+(d1 x m).toNat
 let H:=λ(x:Int)(m X:Ω)=>h3 x m<u X
 let R:=(0:Int)<=(32:Int)
 let f2:=λ(x:Int)(m:Ω)=>W (d1 x m-1)
 let T:=λ(x m:Ω)(X:Int)=>x.getD (h3 X m) e
 let f3:=λ(x m:Ω)(X:Int)=>bits BinOp.or IntKind.u64 (U (U (T x m X)*4294967296)) (U (x.getD (0+(f2 X m).toNat) e))
 let o:=λ(x:Int)=>x=x
 let k6:=ab 263 True
 let c4:=λ(x:Ω)=>sm (u x)
 let h4:=h2=h2
 let c5:=λ(x:Nat)(m:Ω)=>x<u m
 let A:=λ(x:Ω)(m:Nat)=>x.getD m e
 let e3:=λ(x m:Ω)=>(c4 x/\h4/\∀(i:Nat),c5 i x->sm (A m i)/\True)/\True
 let f4:=λ(x m:Ω)=>sm (s x m)
 let f5:=λ(x m X:Ω)=>(f4 x m/\h4/\∀i,i<s x m->sm (A X i)/\True)/\True
 let N:=λ(x m X:Ω)=>c/\Q x/\c/\f5 m x X/\True
 let k7:=λ(x:Int)=>decide (x>=4294967296)
 let h5:=λ(x:Int)(m:Ω)=>decide (U (x+M m)>=4294967296)
 let r:=λ(x:Int)=>U (x-1)
 let q2:=λ(x:Ω)(m:Nat)=>f.enc (A x m)
 let J:=λ(x:Ω)=>λj=>q2 x j
 let f6:=λ(x m:Ω)=>ah f (u x) (J m)
 let c6:=λ(x:Int)=>sm (r x)
 let B:=sm (0:Int)
 let k8:=ab 260 True
 let h6:=λ(x m X y1:Ω)=>c/\((c4 x/\h4/\∀(i:Nat),c5 i x->A m i=(f6 x m).getD i e/\True)/\True)/\N X x y1
 let c7:=λ(x:Int)(m:Ω)=>decide (x<g m)=true
 let d3:=λ(x:Int)(m:Ω)=>0<=x/\x<h0 m
 let y:=λ(x:Int)=>0+x.toNat
 let d4:=λ(x:Int)(m:Ω)=>y x<d0 m
 let D:=λ(x m:Int)(X y1:Ω)=>0<=W (x+m)/\W (x+m)<d2 X y1
 let f7:=λ(x m:Int)=>0+(W (x+m)).toNat
 let E:=λ(x m:Int)(X:Ω)=>f7 x m<u X
 let d5:=(0:Int)<=(63:Int)
 let F:=λ(x:Int)=>W (x+1)
 let K:=λ(x:Ω)(m:Int)=>U ((yX x).getD (y m) 0)
 let f8:=λ(x m X:Int)(y1:Ω)=>U (U (r x*K y1 m)+X)/4294967296
 let O:=λ(x:Ω)(m X:Int)=>U (x.getD (f7 m X) e)
 let f9:=λ(x m:Ω)(X y1 u1 v1 w1:Int)=>U (U (O x X y1-U (V (U (U (r u1*K m X)+v1))))-w1)/9223372036854775808
 let d6:=λ(x:Nat)(m X:Int)=>decide (x=f7 m X)
 let h7:=λ(x:Ω)(m X:Int)=>f.enc (x.getD (f7 m X) e)
 let h8:=λ(x m X:Ω)(y1 u1 v1 w1 m1:Int)=>ah f (u x) λi'=>af (d6 i' y1 u1) (cE (h7 m y1 u1) 0 (SV.int .u32 (V (U (U (O m y1
  u1-U (V (U (U (r v1*K X y1)+w1))))-m1)))::C)) (J m i')
 let c0:=λ(x:Ω)(m:Int)=>(g x-F m).toNat<(g x-m).toNat
 let c8:=λ(x:Int)=>sm (F x)
 let k9:=λ(x m X y1:Ω)(u1 v1 w1 m1 r1:Int)=>c/\((c4 x/\z/\∀(i:Nat),c5 i x->(if d6 i u1 v1=true then V (U (U (O m u1 v1-U (V (U (U
  (r w1*K X u1)+m1))))-r1))else A m i)=(h8 x m X u1 v1 w1 m1 r1).getD i e/\True)/\True)/\N X x y1
 let d7:=λ(x:Int)(m:Ω)=>decide (x<g m)=false
 let e4:=λ(x m:Ω)(X y1 u1:Int)=>U (U (U (T x m X)-y1)-u1)/9223372036854775808 !=0
 let g0:=λ(x:Nat)(m:Int)(X:Ω)=>decide (x=h3 m X)
 let g1:=λ(x m X:Ω)(y1 u1 v1:Int)=>ah f (u x) λi'=>af (g0 i' y1 m) (cE (f.enc (T X m y1)) 0 (SV.int .u32 (V (U (U (U (T X
  m y1)-u1)-v1)))::C)) (J X i')
 let h9:=λ(x m X:Ω)(y1 u1 v1:Int)=>mP x m y1 0 0 (g1 x m X y1 u1 v1)
 let g2:=λ(x:Int)=>sm (U (r x-1))
 let o0:=ab 255 True
 let e5:=λ(x m X:Ω)(y1 u1 v1:Int)=>(c4 x/\z/\∀(i:Nat),c5 i x->(if g0 i y1 m=true then V (U (U (U (T X m y1)-u1)-v1))else A X i)
  =(g1 x m X y1 u1 v1).getD i e/\True)/\True
 let g3:=λ(x m:Ω)(X y1 u1:Int)=>U (U (O x X y1+K m X)+u1)/4294967296
 let o1:=λ(x m X:Ω)(y1 u1 v1:Int)=>ah f (u x) λi'=>af (d6 i' y1 u1) (cE (h7 m y1 u1) 0 (SV.int .u32 (V (U (U (O m y1 u1+
  K X y1)+v1)))::C)) (J m i')
 let j0:=λ(x m X:Ω)(y1 u1 v1:Int)=>mP x m y1 (F u1) (g3 X m u1 y1 v1) (o1 x X m u1 y1 v1)
 let j1:=λ(x m X y1:Ω)(u1 v1 w1:Int)=>c/\((c4 x/\z/\∀(i:Nat),c5 i x->(if d6 i u1 v1=true then V (U (U (O m u1 v1+K X u1)+w1))else
  A m i)=(o1 x m X u1 v1 w1).getD i e/\True)/\True)/\N X x y1
 let g4:=λ(x:Int)(m X:Ω)=>0<=x/\x< ↑(c3 m X)
 let d8:=λ(x:Int)=>W (x-1)
 let j2:=λ(x m X:Ω)(y1 u1:Int)=>ah f (u x) λi'=>af (g0 i' y1 m) (cE (f.enc (T X m y1)) 0 (SV.int .u32 (V (T X m y1+V u1))
  ::C)) (J X i')
 let L:=λ(x:Nat)(m:Int)=>decide (x=y m)
 let j3:=λ(x:Ω)(m:Int)=>x.getD (y m) e
 let e6:=λ(x:Ω)(m:Int)=>f.enc (j3 x m)
 let o2:=λ(x m X:Ω)(y1 u1:Int)=>ah f (s x m) λi'=>af (L i' y1) (cE (e6 X y1) 0 (SV.int .u32 (V (U (r u1-1)))::C)) (J
  X i')
 let g5:=λ(x:Int)=>(d8 x+1).toNat<(x+1).toNat
 let g6:=λ(x m:Ω)(X:Int)=>ab 4 (p x m/\ab 3 (q m/\k x m/\v m/\h m/\True/\w m/\t m/\sm (d8 X)/\k3))
 let o3:=λ(x m X:Ω)(y1 u1:Int)=>(c4 x/\z/\∀(i:Nat),c5 i x->(if g0 i y1 m=true then V (T X m y1+V u1)else A X i)=(j2 x m X y1
  u1).getD i e/\True)/\True
 let o4:=λ(x m X y1:Int)(u1 v1 w1 m1:Ω)=>d7 x u1->G m u1 v1/\H m u1 v1/\G m u1 v1/\H m u1 v1/\True/\g4 m v1 u1/\y m<s v1 u1/\ab 2 (inv1
  v1 u1 (d8 m) (j2 v1 u1 w1 m X) (o2 v1 u1 m1 m y1)/\g5 m/\g6 v1 u1 m/\c/\o3 v1 u1 w1 m X/\c/\Q u1/\c/\((f4 v1 u1/\z/\∀i,i<s v1 u1->(if L
  i m=true then V (U (r y1-1))else A m1 i)=(o2 v1 u1 m1 m y1).getD i e/\True)/\True)/\True)
 let j4:=λ(x m X:Ω)(y1 u1:Int)=>ah f (s x m) λi'=>af (L i' y1) (cE (e6 X y1) 0 (SV.int .u32 (V (r u1))::C)) (J X i')
 let o5:=λ(x m X:Ω)(y1 u1:Int)=>c/\Q x/\c/\((f4 m x/\z/\∀i,i<s m x->(if L i y1=true then V (r u1)else A X i)=(j4 m x X
  y1 u1).getD i e/\True)/\True)/\True
 let o6:=λ(x m X y1:Ω)(u1 v1 w1 m1:Int)=>e4 x m u1 v1 w1=false->g4 u1 X m/\y u1<s X m/\ab 2 (inv1 X m (d8 u1) (g1 X m x u1 v1 w1)
  (j4 X m y1 u1 m1)/\g5 u1/\g6 X m u1/\c/\e5 X m x u1 v1 w1/\o5 m X y1 u1 m1)
 let o7:=λ(x m X:Int)(y1 u1 v1 w1:Ω)=>h5 x y1=false->inv2 u1 y1 m (r X) (U (x+M y1))/\(r X).toNat<X.toNat/\ab 4 (p u1 y1/\ab 3
  (q y1/\k u1 y1/\v y1/\h y1/\True/\w y1/\t y1/\o m/\True/\c6 X/\sm (U (x+M y1))/\k6))/\c/\e3 u1 v1/\N y1 u1 w1
 let g7:=λ(x:Int)(m:Ω)=>W (d1 x m-2)
 let e7:=λ(x:Int)(m:Ω)=>0+(g7 x m).toNat
 let o8:=λ(x m:Int)(X y1:Ω)=>bits BinOp.or IntKind.u64 (U (x*4294967296)) (U (X.getD (e7 m y1) e))
 let j5:=λ(x m X:Int)(y1 u1:Ω)=>decide (U (x*h1 y1)>o8 m X u1 y1)
 let c9:=λ(x m X:Int)(y1 u1 v1:Ω)=>o x/\t y1/\sm (U (x*h1 y1))/\o m/\sm (U (m*4294967296))/\k u1 y1/\o X/\h y1/\sm (d1 X y1)/\sm
  (g7 X y1)/\sm (e7 X y1)/\sm (v1.getD (e7 X y1) e)/\sm (U (v1.getD (e7 X y1) e))/\sm (o8 m X v1 y1)/\sm (j5 x m X y1 v1)/\ab 149 True
 let o9:=λ(x m X:Int)(y1 u1 v1:Ω)=>True/\B/\B/\B/\ab 96 (c9 x m X y1 u1 v1)
 let p0:=λ(x m X:Int)(y1:Ω)=>U (U (x*K y1 m)+X)/4294967296
 let p1:=λ(x m:Ω)(X y1 u1 v1 w1:Int)=>U (U (O x X y1-U (V (U (U (u1*K m X)+v1))))-w1)/9223372036854775808
 let p2:=λ(x m X:Ω)(y1 u1 v1 w1 m1:Int)=>ah f (u x) λi'=>af (d6 i' y1 u1) (cE (h7 m y1 u1) 0 (SV.int .u32 (V (U (U (O m y1
  u1-U (V (U (U (v1*K X y1)+w1))))-m1)))::C)) (J m i')
 let p3:=λ(x m X:Ω)(y1 u1:Int)=>ah f (s x m) λi'=>af (L i' y1) (cE (e6 X y1) 0 (SV.int .u32 (V u1)::C)) (J X i')
 let c1:=λ(x:Ω)=>(g x).toNat
 let p4:=ab 253 True
 let j6:=λ(x:Int)(m:Ω)=>0<=x/\x< ↑(c1 m)
 let p5:=λ(x:Ω)=>decide (sf x>0)
 let j7:=λ(x m:Ω)(X:Int)=>j3 x X/2^min (U (sf m)).toNat 32
 let j8:=λ(x m X:Ω)(y1:Int)=>cE (e6 x y1) 0 (SV.int .u32 (j7 m X y1)::C)
 let p6:=λ(x:Int)(m X y1:Ω)=>bits BinOp.or IntKind.u32 (if decide (y x=y x)=true then j7 m X x else j3 y1 x) (V (m.getD (0+(F x).toNat)
  e*2^min (U (W (32-sf X))).toNat 32))
 let p7:=λ(x m X:Ω)(y1:Int)=>ah f (d x) λi'=>af (L i' y1) (cE (af (decide (y y1=y y1)) (j8 m X x y1) (e6 m y1)) 0 (SV.int
  IntKind.u32 (p6 y1 X x m)::C)) (af (L i' y1) (j8 m X x y1) (J m i'))
 let p8:=λ(x m:Ω)(X:Int)=>ab 4 (p x m/\(e2/\sm (c1 m))/\ab 2 (q m/\k x m/\True/\h m/\ab 16 (c8 X/\p4)))
 let p9:=λ(x:Nat)(m:Int)(X y1 u1:Ω)=>if L x m=true then j7 X y1 m else A u1 x
 let q0:=λ(x m X:Ω)(y1:Int)=>ah f (d x) λi'=>af (L i' y1) (j8 m X x y1) (J m i')
 ab 3 (((d9 a/\d9 b)/\pO (rr a)/\pO (rr b))/\True/\(j9 a b=true->g8 a/\(d a<=140737488355328/\d a*4<=140737488355328)/\ab 2 ((0+d a<=d a/\
  g8 a)/\((qL a b).length=0/\(d a=(rL a b).length/\∀i,i<d a->a.getD (0+i) 0=g9 a b i/\True)/\True)/\True))/\(j9 a b=false->True/\(k0
  b=true->(k1/\0<g b)/\ab 2 (((d9 a/\True)/\zO (rr a) (e0 b))/\ab 3 ((1<=1/\∀i,i<1->e8)/\(((vq (rr a) (e0 b)).length=(qL a b).length
  /\∀i,i<(vq (rr a) (e0 b)).length->(vq (rr a) (e0 b)).getD i 0=(qL a b).getD i 0/\True)/\(1=(rL a b).length/\∀i,i<1->nv (rr a)
  %e0 b=g9 a b i/\True)/\True)/\True)))/\(k0 b=false->(0<=c2 b/\c2 b<g b)/\True/\(True/\pq (b.getD (c2 b).toNat 0))/\ab 3 (((d9 a/\True)/\Ad
  (rr a) (sf b))/\ab 2 (((d9 b/\True)/\Ad (rr b) (sf b))/\(k1/\0<g b/\g b<= ↑(d0 b))/\P/\True/\(sm (e1 a b)/\0<=e1 a b/\e1 a b<=9223372036854775807
  /\4*e1 a b<=281474976710656)/\True/\(0<=c2 b/\c2 b<h0 b)/\0+(c2 b).toNat<d0 b/\(0<=e9 b/\e9 b<h0 b)/\0+(e9 b).toNat<d0 b/\P/\True/\(inv1
  a b (mm a b) (k2 a b) (ah f (s a b) f0)/\ab 4 (p a b/\ab 3 (q b/\k a b/\v b/\h b/\True/\w b/\t b/\mm a b=mm a b/\k3))/\c/\((f1 a b=u a/\z/\
  ∀i,i<f1 a b->(Wb a b).getD i 0=(k2 a b).getD i e/\True)/\True)/\c/\Q b/\c/\((c3 a b=s a b/\z/\∀i,i<c3 a b->0=(ah f (s
  a b) f0).getD i e/\True)/\True)/\True)/\∀(n:Int)(l ax:Ω),inv1 a b n l ax->True/\(k5 n=true->G n b a/\H n b a/\R/\(0<=f2 n b/\f2 n b
  <d2 a b)/\0+(f2 n b).toNat<u a/\P/\M b≠0/\M b≠0/\P/\(inv2 a b n (U ((f3 l b n).tdiv (M b))) ((f3 l b n).tmod (M b))/\ab 4 (p a b/\ab 3 (q b/\
  k a b/\v b/\h b/\True/\w b/\t b/\o n/\True/\sm (U ((f3 l b n).tdiv (M b)))/\sm ((f3 l b n).tmod (M b))/\k6))/\c/\e3 a l/\N b a ax)/\∀(Z az:Int),
  inv2 a b n Z az->(k7 Z=true->ab 4 ((h5 az b=true->ab 2 ((kh a b n (r Z) 0 0 0 (f6 a l)/\ab 4 (p a b/\ab 3 (q b/\k a b/\v b/\h b/\True
  /\w b/\t b/\o n/\True/\c6 Z/\True/\B/\B/\B/\k8))/\h6 a l b ax)/\∀(ac al aw:Int)(l:Ω),kh a b n (r Z) ac al aw l->True/\(c7
  ac b->d3 ac b/\d4 ac b/\True/\R/\True/\D ac n a b/\E ac n a/\True/\d5/\D ac n a b/\E ac n a/\ab 2 (kh a b n (r Z) (F ac) (f8 Z ac al
  b) (f9 l b ac n Z al aw) (h8 a l b ac n Z al aw)/\c0 b ac/\ab 4 (p a b/\ab 3 (q b/\k a b/\v b/\h b/\True/\w b/\t b/\o n/\True/\c6 Z/\
  True/\sm (f9 l b ac n Z al aw)/\sm (f8 Z ac al b)/\c8 ac/\k8))/\k9 a l b ax ac n Z al aw))/\(d7 ac b->G n b a/\H n b a/\True/\G n b a
  /\H n b a/\True/\d5/\True/\(e4 l b n al aw=true->ab 3 ((h9 a b l n al aw/\ab 4 (p a b/\ab 3 (q b/\k a b/\v b/\h b/\True/\w b/\t b/\o n/\True
  /\g2 Z/\ab 7 (B/\B/\o0)))/\c/\e5 a b l n al aw/\N b a ax)/\∀(ad ay:Int)(l:Ω),mP a b n ad ay l->True/\(c7 ad b->D ad n a b/\
  E ad n a/\d3 ad b/\d4 ad b/\P/\R/\D ad n a b/\E ad n a/\ab 2 (j0 a b l n ad ay/\c0 b ad/\ab 4 (p a b/\ab 3 (q b/\k a b/\v b/\h b/\True/\
  w b/\t b/\o n/\True/\g2 Z/\ab 7 (sm (g3 l b ad n ay)/\c8 ad/\o0)))/\j1 a l b ax ad n ay))/\o4 ad n ay Z b a l ax))/\o6 l b a ax n al aw
  Z)))/\o7 az n Z b a l ax))/\(k7 Z=false->R/\(0<=g7 n b/\g7 n b<d2 a b)/\e7 n b<u a/\True/\(j5 Z az n b l=true->ab 3 ((h5 az b=true
  ->ab 2 ((kh a b n (r Z) 0 0 0 (f6 a l)/\ab 4 (p a b/\ab 3 (q b/\k a b/\v b/\h b/\True/\w b/\t b/\o n/\True/\c6 Z/\o9 Z az n b a l))/\h6
  a l b ax)/\∀(ac al aw:Int)(aq:Ω),kh a b n (r Z) ac al aw aq->True/\(c7 ac b->d3 ac b/\d4 ac b/\True/\R/\True/\D ac n a b
  /\E ac n a/\True/\d5/\D ac n a b/\E ac n a/\ab 2 (kh a b n (r Z) (F ac) (f8 Z ac al b) (f9 aq b ac n Z al aw) (h8 a aq b ac n Z al aw)
  /\c0 b ac/\ab 4 (p a b/\ab 3 (q b/\k a b/\v b/\h b/\True/\w b/\t b/\o n/\True/\c6 Z/\True/\sm (f9 aq b ac n Z al aw)/\sm (f8 Z ac al
  b)/\c8 ac/\ab 96 (c9 Z az n b a l)))/\k9 a aq b ax ac n Z al aw))/\(d7 ac b->G n b a/\H n b a/\True/\G n b a/\H n b a/\True/\d5/\True/\
  (e4 aq b n al aw=true->ab 3 ((h9 a b aq n al aw/\ab 4 (p a b/\ab 3 (q b/\k a b/\v b/\h b/\True/\w b/\t b/\o n/\True/\g2 Z/\ab 7 (B/\B
  /\ab 91 (c9 Z az n b a l))))/\c/\e5 a b aq n al aw/\N b a ax)/\∀(ad ay:Int)(aD:Ω),mP a b n ad ay aD->True/\(c7 ad b->D ad
  n a b/\E ad n a/\d3 ad b/\d4 ad b/\P/\R/\D ad n a b/\E ad n a/\ab 2 (j0 a b aD n ad ay/\c0 b ad/\ab 4 (p a b/\ab 3 (q b/\k a b/\v b/\h
  b/\True/\w b/\t b/\o n/\True/\g2 Z/\ab 7 (sm (g3 aD b ad n ay)/\c8 ad/\ab 91 (c9 Z az n b a l))))/\j1 a aD b ax ad n ay))/\o4 ad n ay
  Z b a aD ax))/\o6 aq b a ax n al aw Z)))/\o7 az n Z b a l ax))/\(j5 Z az n b l=false->ab 2 ((kh a b n Z 0 0 0 (f6 a l)/\ab 4 (p a b
  /\ab 3 (q b/\k a b/\v b/\h b/\True/\w b/\t b/\o n/\True/\o Z/\o9 Z az n b a l))/\h6 a l b ax)/\∀(ac al aw:Int)(aq:Ω),kh a
  b n Z ac al aw aq->True/\(c7 ac b->d3 ac b/\d4 ac b/\True/\R/\True/\D ac n a b/\E ac n a/\True/\d5/\D ac n a b/\E ac n a/\ab 2 (kh
  a b n Z (F ac) (p0 Z ac al b) (p1 aq b ac n Z al aw) (p2 a aq b ac n Z al aw)/\c0 b ac/\ab 4 (p a b/\ab 3 (q b/\k a b/\v b/\h b/\True
  /\w b/\t b/\o n/\True/\o Z/\True/\sm (p1 aq b ac n Z al aw)/\sm (p0 Z ac al b)/\c8 ac/\ab 96 (c9 Z az n b a l)))/\c/\((c4 a/\z/\∀(i
  :Nat),c5 i a->(if d6 i ac n=true then V (U (U (O aq ac n-U (V (U (U (Z*K b ac)+al))))-aw))else A aq i)=(p2 a aq b ac n Z al aw).getD
  i e/\True)/\True)/\N b a ax))/\(d7 ac b->G n b a/\H n b a/\True/\G n b a/\H n b a/\True/\d5/\True/\(e4 aq b n al aw=true->ab 3 ((h9 a b aq
  n al aw/\ab 4 (p a b/\ab 3 (q b/\k a b/\v b/\h b/\True/\w b/\t b/\o n/\True/\c6 Z/\ab 7 (B/\B/\ab 91 (c9 Z az n b a l))))/\c/\e5 a b aq
  n al aw/\N b a ax)/\∀(ad ay:Int)(aD:Ω),mP a b n ad ay aD->True/\(c7 ad b->D ad n a b/\E ad n a/\d3 ad b/\d4 ad b/\P/\R/\
  D ad n a b/\E ad n a/\ab 2 (j0 a b aD n ad ay/\c0 b ad/\ab 4 (p a b/\ab 3 (q b/\k a b/\v b/\h b/\True/\w b/\t b/\o n/\True/\c6 Z/\ab 7
  (sm (g3 aD b ad n ay)/\c8 ad/\ab 91 (c9 Z az n b a l))))/\j1 a aD b ax ad n ay))/\(d7 ad b->G n b a/\H n b a/\G n b a/\H n b a/\True/\g4 n
  a b/\y n<s a b/\ab 2 (inv1 a b (d8 n) (j2 a b aD n ay) (j4 a b ax n Z)/\g5 n/\g6 a b n/\c/\o3 a b aD n ay/\o5 b a ax n Z))))/\(e4 aq b n al
  aw=false->g4 n a b/\y n<s a b/\ab 2 (inv1 a b (d8 n) (g1 a b aq n al aw) (p3 a b ax n Z)/\g5 n/\g6 a b n/\c/\e5 a b aq n al aw/\c/\Q b/\
  c/\((f4 a b/\z/\∀i,i<s a b->(if L i n=true then V Z else A ax i)=(p3 a b ax n Z).getD i e/\True)/\True)/\True)))))))/\(k5 n=false
  ->(h b/\0<=g b/\g b<=9223372036854775807/\4*g b<=281474976710656)/\ab 2 ((rC a b 0 (ah f (d b) f0)/\ab 4 (p a b/\(e2/\sm (c1 b))/\ab 2 (q b/\
  k a b/\True/\h b/\ab 16 (B/\p4)))/\c/\e3 a l/\c/\Q b/\c/\f5 a b ax/\c/\((c1 b=d b/\z/\∀i,i<c1 b->0=(ah f (d b) f0).getD i e/\
  True)/\True)/\True)/\∀(n:Int)(aq:Ω),rC a b n aq->True/\(c7 n b->(0<=n/\n<d2 a b)/\y n<u a/\0<=U (sf b)/\j6 n b/\y n<d b/\ab
  2 ((p5 b=true->j6 n b/\y n<d b/\(0<=F n/\F n<d2 a b)/\0+(F n).toNat<u a/\0<=U (W (32-sf b))/\j6 n b/\y n<d b/\P/\True/\rC a b (F n)
  (p7 b aq l n)/\c0 b n/\p8 a b n/\c/\e3 a l/\c/\Q b/\c/\f5 a b ax/\c/\((d b=d b/\z/\∀i,i<d b->(if L i n=true then p6 n l b aq else
  p9 i n l b aq)=(p7 b aq l n).getD i e/\True)/\True)/\True)/\(p5 b=false->True/\rC a b (F n) (q0 b aq l n)/\c0 b n/\p8 a b n/\c/\e3 a l/\c/\Q
  b/\c/\f5 a b ax/\c/\((d b=d b/\z/\∀i,i<d b->p9 i n l b aq=(q0 b aq l n).getD i e/\True)/\True)/\True)))/\(d7 n b->True/\(0+c3 a
  b<=s a b/\∀i,i<s a b->e8)/\(0+c1 b<=d b/\g8 b)/\((c3 a b=(qL a b).length/\∀i,i<c3 a b->ax.getD (0+i) e=(qL a b).getD i
  0/\True)/\(c1 b=(rL a b).length/\∀i,i<c1 b->aq.getD (0+i) e=g9 a b i/\True)/\True)/\True)))))))))=Se a b:=by kernel_rfl
end Go.Proofs.Big
namespace Go.Proofs.Big
open Go Go.Sx Go.Proofs
variable [bW]
attribute [local irreducible] lm nv tl dg dz
structure Div (a b : List Int) : Prop where
 n2 : 2 <= b.length
 le : b.length <= a.length
 HU : a.length <= 1000000
 da : cO a
 db : cO b
 s0 : 0 <= rX b
 s1 : rX b < 32
 v1 : pw (b.length - 1) <= v0 b
 v2 : v0 b < pw b.length
 u1 : 0 <= u0 a b
 u2 : u0 a b < pw (a.length + 1)
 u3 : u0 a b < v0 b * pw (a.length - b.length + 1)
theorem vW{a b:Ω}(h:tY a b):mU a/\mU b/\0<nv b:=by unfold tY at h;exact h
theorem SR{a b:Ω}(h:tY a b)(C:nv b<=nv a)(N:b.length≠1):Div a b:=by
 obtain⟨u,j,D⟩:=vW h;have i:=jV u;have c:=jV j;have d:b≠[]:=by intro e;subst e;simp[nv]at D
 have k:2<=b.length:=by
  have:b.length≠0:=λe=>d (Kr e)
  omega
 have m:b.length<=a.length:=by
  rcases Kv a.length b.length with h|h
  . have:=w9 i c h;omega
  . exact h
 have w:=bH c.1 (b.length-1);have E:=c.2 d;have o:=My w.1 w.2;have O:rX b=32-bl (b.getD (b.length-1) 0):=by unfold rX;rfl
 have x:=o.2.2 (by omega);have y:=two_pos (rX b).toNat;have F:=fV c.1;have z:=fV i.1;have G:=nq c d;have H:nv b<=v0 b:=by
  unfold v0;have:nv b*1<=nv b*2^(rX b).toNat:=Jt (by omega) F.1;omega
 have A:b.getD (b.length-1) 0<2^(bl (b.getD (b.length-1) 0)).toNat:=by
  have e:bl (b.getD (b.length-1) 0)=(wL (b.getD (b.length-1) 0).natAbs:Int):=by unfold bl;rfl
  have:=HK (J1 (wL (b.getD (b.length-1) 0).natAbs));rw[e,K7];have j:(((b.getD (b.length-1) 0).natAbs:Nat):Int)<((2^wL (b.getD (b.length-1) 0).natAbs:Nat):Int):=by exact_mod_cast this
  simp only[Int.natCast_pow,Int.cast_ofNat_Int]at j;omega
 have p:v0 b<pw b.length:=by
  have J:nv b=nv (b.take (b.length-1))+pw (b.length-1)*b.getD (b.length-1) 0:=by
   have:=fv b (b.length-1)
   rwa[show b.length-1+1=b.length by omega,Jz (J1 _)]at this
  have q:=cm c.1 (b.length-1);have B:pw (b.length-1)*(b.getD (b.length-1) 0+1)<=pw (b.length-1)*2^(bl (b.getD (b.length-1) 0)).toNat:=Jt (by omega) (by have:=bN (b.length-1);omega);rw[Kg,Ke]at B;have K:nv b<pw (b.length-1)*2^(bl (b.getD (b.length-1) 0)).toNat:=by omega
  have L:=X8 K y;rw[Jk,<-Int.pow_add,show(bl (b.getD (b.length-1) 0)).toNat+(rX b).toNat=32 by omega,show(2:Int)^32=4294967296 from rfl]at L;unfold v0;have M:pw b.length=4294967296*pw (b.length-1):=by rw[<-bD];congr 1;omega
  rw[M];omega
 have r:0<=u0 a b:=by unfold u0;exact Ja z.1 (by omega)
 refine⟨k,m,iC u,i.1,c.1,by omega,by omega,by omega,p,r,?_,?_⟩
 . unfold u0;exact Mh i.1 (by omega)
 . unfold u0 v0;have J:nv a*2^(rX b).toNat<pw a.length*2^(rX b).toNat:=X8 z.2 y;have q:pw (b.length-1)*pw (a.length-b.length+1)<=nv b*pw (a.length-b.length+1):=Jh G (by have:=bN (a.length-b.length+1);omega);rw[<-gG,show b.length-1+(a.length-b.length+1)=a.length by omega]at q;have B:pw a.length*2^(rX b).toNat<=nv b*pw (a.length-b.length+1)*2^(rX b).toNat:=Jh q (by omega);rw[Jk (nv b),J6 (2^(rX b).toNat),<-Int.mul_assoc (nv b)]
   omega
section
variable {a b : List Int} (c : Div a b)
include c
theorem Div.vp:0<v0 b:=by have:=c.v1;have:=bN (b.length-1);omega
theorem Div.hi(j:Nat):0<=hiR a b j/\hiR a b j<v0 b:=by
 unfold hiR;exact⟨Jm _ (by have:=c.vp;omega),Jo _ c.vp⟩
theorem Div.wb(j:Nat):0<=bV a b j/\bV a b j<v0 b*4294967296:=by
 have:=c.hi (j+1);unfold bV;omega
omit c in
theorem EJ(j:Nat):u0 a b/pw j=v0 b*(4294967296*(u0 a b/pw (j+1)/v0 b))+bV a b j:=by
 have e:=Qs (u0 a b/pw (j+1)) (v0 b);have h:u0 a b/pw j=u0 a b/pw (j+1)*4294967296+(u0 a b/pw j)%4294967296:=by
  rw[<-cq];omega
 unfold bV hiR;rw[X7];generalize u0 a b/pw (j+1)/v0 b=X at*
 generalize (u0 a b/pw (j+1))%v0 b=Y at*
 generalize (u0 a b/pw j)%4294967296=d at*
 omega
omit c in
theorem O9(j:Nat):hiR a b j=bV a b j%v0 b:=by
 conv=>lhs;unfold hiR
 rw[EJ j,Int.mul_add_emod_self_left]
theorem Div.O6(j:Nat):0<=bV a b j/v0 b/\bV a b j/v0 b<4294967296:=by
 have h:=c.wb j;have:=c.vp;exact⟨Kb h.1 (by omega),(Kl this).2 (by omega)⟩
theorem Div.Ud(j:Nat):u0 a b/v0 b/pw j=4294967296*(u0 a b/v0 b/pw (j+1))+bV a b j/v0 b:=by
 have d:=c.vp;rw[Qd (by omega),J6,<-Int.ediv_ediv_of_nonneg (by have:=bN j;omega),EJ j,Int.mul_add_ediv_left _ _ (by omega)];rw[Qd (by omega) (x:=u0 a b) (y:=v0 b),J6 (v0 b),<-Int.ediv_ediv_of_nonneg (by have:=bN (j+1);omega)]
omit c in
theorem mod_succ(z:Int)(i:Nat):z%pw (i+1)=z%pw i+pw i*(z/pw i%4294967296):=by
 have d:=X2 z (pw (i+1));have e:=X2 z (pw i);have h:=X2 (z/pw i) 4294967296;rw[d,e,h,cq,bD,Qm,<-Int.mul_assoc,J6 (pw i) 4294967296];omega
omit c in
theorem NB{n k:Nat}{z:Int}(d:0<=z)(e:z<pw n):dg (n+k) z=dg n z++List.replicate k 0:=by
 rw[G8,Qq d e,CE]
omit c in
theorem AG{n k m:Nat}{z:Int}(d:0<=z)(e:z<pw n)(h:m=n+k):dg m z=dg n z++List.replicate k 0:=by rw[h];exact NB d e
omit c in
theorem M1(z:Int):dg 0 z=[]:=by simp[dg]
omit c in
theorem FK{j:Int}{u q:Ω}(h:inv1 a b j u q):u.length=a.length+1/\q.length=a.length-b.length+1:=by
 unfold inv1 at h;obtain⟨d,e,rfl,rfl⟩:=h;simp;omega
theorem Div.V5:inv1 a b (a.length-b.length) (dg (a.length+1) (u0 a b)) (List.replicate (a.length-b.length+1) 0):=by
 unfold inv1;have d:=c.le;have e:((a.length:Int)-b.length+1).toNat=a.length-b.length+1:=by omega
 rw[e];refine⟨by omega,by omega,?_,?_⟩
 . have h:hiR a b (a.length-b.length+1)=u0 a b/pw (a.length-b.length+1):=by
    unfold hiR;have:=sJ (m:=v0 b) c.u1 c.u3;exact Qr this.1 this.2
   rw[h,<-G8];congr 1;omega
 . simp[dg]
theorem Div.AT{j:Int}{u q:Ω}(h:inv1 a b j u q)(o:0<=j):u=dg j.toNat (u0 a b)++(dg (b.length+1) (Big.bV a b j.toNat)++List.replicate (a.length-j.toNat-b.length) 0):=by
 unfold inv1 at h;obtain⟨p,r,d,w⟩:=h;rw[show(j+1).toNat=j.toNat+1 by omega]at d;have e:=c.hi (j.toNat+1);have x:=c.v2;rw[d,re,Jq,AG (n:=b.length) (k:=a.length-j.toNat-b.length) e.1 (by omega) (by omega),dg];have i:Big.bV a b j.toNat%4294967296=u0 a b/pw j.toNat%4294967296:=by unfold bV;omega
 have m:Big.bV a b j.toNat/4294967296=hiR a b (j.toNat+1):=by unfold bV;omega
 rw[i,m];rfl
theorem Div.yw{j:Int}{u q u':Ω}(h:inv1 a b j u q)(p:0<=j)(i:u'=dg j.toNat (u0 a b)++(dg b.length (Big.bV a b j.toNat%v0 b)++List.replicate (a.length+1-j.toNat-b.length) 0)):inv1 a b (j-1) u' (q.set j.toNat (Big.bV a b j.toNat/v0 b)):=by
 unfold inv1 at h⊢;obtain⟨r,w,x,d⟩:=h;have o:=c.le;rw[show(j+1).toNat=j.toNat+1 by omega]at d;rw[show(j-1+1).toNat=j.toNat by omega];have y:=c.v2;have e:=c.hi j.toNat;rw[O9]at e;refine⟨by omega,by omega,?_,?_⟩
 . rw[i,O9,AG (m:=a.length+1-j.toNat) (n:=b.length) (k:=a.length+1-j.toNat-b.length) e.1 (by omega) (by omega)]
 . rw[d,List.replicate_succ',Jq,Xj,cG (by simp)];have z:=c.O6 j.toNat;rw[show a.length-b.length+1-j.toNat=(a.length-b.length+1-(j.toNat+1))+1 by omega,dg,c.Ud j.toNat]
   congr 2
   . omega
   . congr 1;omega
omit c in
theorem MX{j:Int}{u q:Ω}(h:inv1 a b j u q)(k:j<0):u=dg (a.length+1) (u0 a b%v0 b)/\q=dg (a.length-b.length+1) (nv a/nv b):=by
 unfold inv1 at h;obtain⟨m,o,d,i⟩:=h;have e:j= -1:=by omega
 subst e;rw[show(-1+1:Int).toNat=0 from rfl]at d i;simp only[Xf,hiR,fh,Int.ediv_one,List.replicate_zero,Jj,M1]at d i;refine⟨d,?_⟩;rw[i]
 congr 1
 unfold u0 v0;exact KN _ _ (two_pos _)
omit c in
theorem vdig(i:Nat)(d:i<b.length+1):(dg (b.length+1) (v0 b)).getD i 0=v0 b/pw i%4294967296:=tA _ d
theorem Div.top:v0 b/pw (b.length-1)%4294967296=v0 b/pw (b.length-1)/\1<=v0 b/pw (b.length-1)/\v0 b/pw (b.length-1)<4294967296:=by
 have i:=c.v1;have j:=c.v2;have d:=bN (b.length-1);have k:=c.n2;have m:pw b.length=4294967296*pw (b.length-1):=by rw[<-bD];congr 1;omega
 have h:1<=v0 b/pw (b.length-1):=by rw[Qp d];omega
 have e:v0 b/pw (b.length-1)<4294967296:=(Kl d).2 (by omega);exact⟨Qr (by omega) e,h,e⟩
theorem Div.Wv{j:Int}{u q:Ω}(h:inv1 a b j u q)(e:0<=j){k:Nat}(d:k<b.length+1):u.getD (j.toNat+k) 0=Big.bV a b j.toNat/pw k%4294967296:=by
 rw[c.AT h e,J0,Jy (by simp),mL,Nat.add_sub_cancel_left,Ka (by simpa using d),<-List.getD_eq_getElem?_getD,tA _ d]
theorem Div.CJ(j:Nat):0<=Big.bV a b j/pw b.length/\Big.bV a b j/pw b.length<4294967296/\Big.bV a b j/pw b.length%4294967296*4294967296+Big.bV a b j/pw (b.length-1)%4294967296=Big.bV a b j/pw (b.length-1)/\Big.bV a b j/pw (b.length-1)<(v0 b/pw (b.length-1)+1)*4294967296:=by
 have i:=c.wb j;have o:=c.v2;have p:=c.n2;have d:=sJ (m:=4294967296) i.1 (k:=b.length) (by omega);have e:Big.bV a b j/pw b.length=Big.bV a b j/pw (b.length-1)/4294967296:=by
  rw[cq];congr 2;omega
 refine⟨d.1,d.2,by rw[e]at d⊢;omega,?_⟩;have h:=bN (b.length-1);rw[Kl h];have q:v0 b<(v0 b/pw (b.length-1)+1)*pw (b.length-1):=by
  have:=Zi (v0 b) h;exact this
 rw[Jk,J6 4294967296,<-Int.mul_assoc];omega
theorem Div.three(z:Int):z=(z/pw (b.length-1)*4294967296+z/pw (b.length-2)%4294967296)*pw (b.length-2)+z%pw (b.length-2):=by
 have d:=c.n2;have e:z/pw (b.length-1)=z/pw (b.length-2)/4294967296:=by
  rw[cq];congr 2;omega
 rw[e];have h:=Qs z (pw (b.length-2));rw[show z/pw (b.length-2)/4294967296*4294967296+z/pw (b.length-2)%4294967296=z/pw (b.length-2) by omega,J6];omega
theorem Div.Wk{j:Int}:inv2 a b j (Big.bV a b j.toNat/pw (b.length-1)/(v0 b/pw (b.length-1))) (Big.bV a b j.toNat/pw (b.length-1)%(v0 b/pw (b.length-1))):=by
 unfold inv2;obtain⟨t1,t2,t3⟩:=c.top;have e:=c.wb j.toNat;have d:=bN (b.length-2);refine⟨Jm _ (by omega),?_,?_,?_⟩
 . have:=Jo (Big.bV a b j.toNat/pw (b.length-1)) (show 0<v0 b/pw (b.length-1) by omega);omega
 . have:=Qs (Big.bV a b j.toNat/pw (b.length-1)) (v0 b/pw (b.length-1));rw[J6];exact this
 . exact QH d (c.three (v0 b)) (c.three (Big.bV a b j.toNat)) (Jm _ (by omega)) (Jo _ d) t2 (by omega) ⟨by omega,by omega⟩ e.1 c.vp
theorem Div.XL{j g r:Int}(h:inv2 a b j g r)(m:4294967296<=g\/r*4294967296+Big.bV a b j.toNat/pw (b.length-2)%4294967296<g*(v0 b/pw (b.length-2)%4294967296)):
 1<=g/\(4294967296<=g->r+v0 b/pw (b.length-1)<4294967296\/g-1<4294967296)/\Big.bV a b j.toNat/v0 b<=g-1/\(g-1)*(v0 b/pw (b.length-1))+(r+v0 b/pw (b.length-1))=Big.bV a b j.toNat/pw (b.length-1)/\(r+v0 b/pw (b.length-1)<4294967296->inv2 a b j (g-1) (r+v0 b/pw (b.length-1))):=by
 unfold inv2 at h⊢;obtain⟨x,y,o,p⟩:=h;obtain⟨t1,t2,t3⟩:=c.top;have q:=c.wb j.toNat;have i:=bN (b.length-2);have u:=c.O6 j.toNat;have k:=VW i (c.three (v0 b)) (c.three (Big.bV a b j.toNat)) (Jm _ (by omega)) (Jo _ i) c.vp q.1 o u.2 p m;have e:(g-1)*(v0 b/pw (b.length-1))+(r+v0 b/pw (b.length-1))=Big.bV a b j.toNat/pw (b.length-1):=by
  rw[Int.sub_mul,K8];omega
 refine⟨by omega,λz=>?_,k,e,λd=>⟨by omega,d,e,k⟩⟩;have w:=(c.CJ j.toNat).2.2.2;rcases Qe (g-1) 4294967296 with h|h
 . exact .inr h
 . left;have A:4294967296*(v0 b/pw (b.length-1))<=(g-1)*(v0 b/pw (b.length-1)):=Jh h (by omega);rw[Qo,K8]at w;omega
def ak(a b:Ω)(j g:Int):Prop:=0<=g/\g<4294967296/\Big.bV a b j.toNat/v0 b<=g/\(g-1)*v0 b<=Big.bV a b j.toNat
theorem Div.It{j g r:Int}(m:Big.bV a b j.toNat/v0 b<=g)(o:g*(v0 b/pw (b.length-1))+r=Big.bV a b j.toNat/pw (b.length-1))(i:g<4294967296)(p:0<=r)(e:4294967296<=r\/g*(v0 b/pw (b.length-2)%4294967296)<=r*4294967296+Big.bV a b j.toNat/pw (b.length-2)%4294967296):ak a b j g:=by
 unfold ak;have q:=c.O6 j.toNat;have k:=bN (b.length-2);obtain⟨t1,t2,t3⟩:=c.top;have d:0<=v0 b/pw (b.length-2)%4294967296:=by omega
 have h:g*(v0 b/pw (b.length-2)%4294967296)<=r*4294967296+Big.bV a b j.toNat/pw (b.length-2)%4294967296:=by
  rcases e with e|e
  . have u:g*(v0 b/pw (b.length-2)%4294967296)<=4294967296*4294967296:=Qb (by omega) (by omega) d (by omega);omega
  . exact e
 refine⟨by omega,i,m,?_⟩;exact Vx k (c.three (v0 b)) (c.three (Big.bV a b j.toNat)) (Jo _ k) (Jm _ (by omega)) (Jm _ (by omega)) t2 d o (by omega) i h
omit c in
theorem DU{j g i x w:Int}{u:Ω}(d:j.toNat+b.length<=a.length)(h:kh a b j g i x w u):u.length=a.length+1:=by
 unfold kh at h;obtain⟨e,k,m,o,rfl⟩:=h;simp;omega
omit c in
theorem FA{j i x:Int}{u:Ω}(d:j.toNat+b.length<=a.length)(h:mP a b j i x u):u.length=a.length+1:=by
 unfold mP at h;obtain⟨e,k,m,rfl⟩:=h;simp;omega
theorem Div.VA{j g:Int}{u q:Ω}(h:inv1 a b j u q)(d:0<=j):kh a b j g 0 0 0 u:=by
 unfold kh;rw[c.AT h d];simp[fh,Int.emod_one,M1]
omit c in
theorem get_at{l r:Ω}{x:Int}{k:Nat}(h:l.length=k):(l++x::r).getD k 0=x:=by
 subst h;rw[J0,Jy (J1 _),Nat.sub_self];rfl
theorem Div.KU{j g i x w:Int}{u:Ω}(k:0<=g)(B:g<4294967296)(h:kh a b j g i x w u)(hi:i<b.length):
 0<=x/\x<4294967296/\0<=w/\w<=1/\GD (u.getD (i+j.toNat).toNat 0)/\∀p d,p=g*(v0 b/pw i.toNat%4294967296)+x->d=u.getD (i+j.toNat).toNat 0-p%4294967296-w->
  kh a b j g (i+1) (p/4294967296) (U d/9223372036854775808) (u.set (i+j.toNat).toNat (V (U d))):=by
 unfold kh at h⊢;obtain⟨L,M,C,N,D⟩:=h;have e:=bN i.toNat;have E:=Jm (v0 b) (uE i.toNat);have F:=Jo (v0 b) e;have G:0<=g*(v0 b%pw i.toNat):=Ja k E;have o:g*(v0 b%pw i.toNat)<4294967296*pw i.toNat:=by
  have O:g*(v0 b%pw i.toNat)<=g*pw i.toNat:=Jt (by omega) k;have R:g*pw i.toNat<4294967296*pw i.toNat:=X8 B e;omega
 have X:=sJ G o;have Z:=Jm (Big.bV a b j.toNat) (uE i.toNat);have H:=Jo (Big.bV a b j.toNat) e;have hM:=Jm (g*(v0 b%pw i.toNat)) (uE i.toNat);have J:=Jo (g*(v0 b%pw i.toNat)) e;have hw: -1<=(Big.bV a b j.toNat%pw i.toNat-(g*(v0 b%pw i.toNat))%pw i.toNat)/pw i.toNat/\(Big.bV a b j.toNat%pw i.toNat-(g*(v0 b%pw i.toNat))%pw i.toNat)/pw i.toNat<=0:=by
  refine⟨by rw[Qp e];omega,?_⟩;have:(Big.bV a b j.toNat%pw i.toNat-(g*(v0 b%pw i.toNat))%pw i.toNat)/pw i.toNat<1:=(Kl e).2 (by omega);omega
 have K:(i+(j.toNat:Int)).toNat=j.toNat+i.toNat:=by omega
 rw[K,show(i+1).toNat=i.toNat+1 by omega];have hu:u=(dg j.toNat (u0 a b)++dg i.toNat (Big.bV a b j.toNat%pw i.toNat-(g*(v0 b%pw i.toNat))%pw i.toNat))++(Big.bV a b j.toNat/pw i.toNat%4294967296)::(dg (b.length+1-(i.toNat+1)) (Big.bV a b j.toNat/pw (i.toNat+1))++List.replicate (a.length-j.toNat-b.length) 0):=by
  rw[D,show b.length+1-i.toNat=(b.length+1-(i.toNat+1))+1 by omega,dg,cq];simp
 have m:u.getD (j.toNat+i.toNat) 0=Big.bV a b j.toNat/pw i.toNat%4294967296:=by
  rw[hu];exact get_at (by simp)
 rw[m];refine⟨by omega,by omega,by omega,by omega,⟨by omega,by omega⟩,λp d q hd=>?_⟩;have y:g*(v0 b%pw (i.toNat+1))=g*(v0 b%pw i.toNat)+pw i.toNat*(g*(v0 b/pw i.toNat%4294967296)):=by
  rw[mod_succ,Kg,X7]
 have r:(g*(v0 b%pw (i.toNat+1)))%pw (i.toNat+1)=(g*(v0 b%pw i.toNat))%pw i.toNat+pw i.toNat*(p%4294967296):=by
  rw[y,mod_succ,Yg,nw]
  congr 2;congr 1;omega
 have z:Big.bV a b j.toNat%pw (i.toNat+1)-(g*(v0 b%pw (i.toNat+1)))%pw (i.toNat+1)=Big.bV a b j.toNat%pw i.toNat-(g*(v0 b%pw i.toNat))%pw i.toNat+pw i.toNat*(Big.bV a b j.toNat/pw i.toNat%4294967296-p%4294967296):=by
  rw[r,mod_succ,Qm];omega
 have A:(Big.bV a b j.toNat%pw i.toNat-(g*(v0 b%pw i.toNat))%pw i.toNat)/pw i.toNat+(Big.bV a b j.toNat/pw i.toNat%4294967296-p%4294967296)=d:=by omega
 refine⟨by omega,by omega,?_,?_,?_⟩
 . rw[y,lH,q,C];congr 1;omega
 . rw[z,lH,A,nt];omega
 . rw[hu,cG (by simp),z,uL,A];have:V (U d)=d%4294967296:=by rw[iA,nt];omega
   rw[this];simp
theorem Div.Oi{j g i x w:Int}{u:Ω}(p:ak a b j g)(h:kh a b j g i x w u)(hi:(b.length:Int)<=i):
 GD (u.getD (j.toNat+b.length) 0)/\0<=x/\x<4294967296/\0<=w/\w<=1/\u.getD (j.toNat+b.length) 0-x-w=(Big.bV a b j.toNat-g*v0 b)/pw b.length/\
 ∀y,u.set (j.toNat+b.length) y=dg j.toNat (u0 a b)++(dg b.length (Big.bV a b j.toNat-g*v0 b)++y::List.replicate (a.length-j.toNat-b.length) 0):=by
 unfold kh at h;obtain⟨k,E,F,G⟩:=p;obtain⟨O,R,B,C,q⟩:=h;have e:i.toNat=b.length:=by omega
 rw[e]at B C q;have m:=bN b.length;have r:=c.v2;have H:=c.vp;have z:v0 b%pw b.length=v0 b:=Qr (by omega) r;rw[z]at B C q;have d:=c.CJ j.toNat;have J:0<=g*v0 b:=Ja k (by omega);have A:g*v0 b<4294967296*pw b.length:=by
  have K:g*v0 b<=g*pw b.length:=Jt (by omega) k;have L:g*pw b.length<4294967296*pw b.length:=X8 E m;omega
 have X:=sJ J A;have Z:=Jm (Big.bV a b j.toNat) (uE b.length);have M:=Jo (Big.bV a b j.toNat) m;have hM:=Jm (g*v0 b) (uE b.length);have N:=Jo (g*v0 b) m;have hw: -1<=(Big.bV a b j.toNat%pw b.length-(g*v0 b)%pw b.length)/pw b.length/\(Big.bV a b j.toNat%pw b.length-(g*v0 b)%pw b.length)/pw b.length<=0:=by
  refine⟨by rw[Qp m];omega,?_⟩;have:(Big.bV a b j.toNat%pw b.length-(g*v0 b)%pw b.length)/pw b.length<1:=(Kl m).2 (by omega);omega
 have D:Big.bV a b j.toNat-g*v0 b=Big.bV a b j.toNat%pw b.length-(g*v0 b)%pw b.length+pw b.length*(Big.bV a b j.toNat/pw b.length-g*v0 b/pw b.length):=by
  have K:=Qs (Big.bV a b j.toNat) (pw b.length);have L:=Qs (g*v0 b) (pw b.length);rw[Qm];omega
 have hu:u=(dg j.toNat (u0 a b)++dg b.length (Big.bV a b j.toNat%pw b.length-(g*v0 b)%pw b.length))++(Big.bV a b j.toNat/pw b.length)::List.replicate (a.length-j.toNat-b.length) 0:=by
  rw[q,show b.length+1-b.length=0+1 by omega,dg,M1,Qr d.1 d.2.1];simp
 have o:u.getD (j.toNat+b.length) 0=Big.bV a b j.toNat/pw b.length:=by
  rw[hu];exact get_at (by simp)
 rw[o];refine⟨⟨d.1,d.2.1⟩,by omega,by omega,by omega,by omega,?_,λy=>?_⟩
 . rw[D,nw];omega
 . rw[hu,cG (by simp),D,dg_high];simp
theorem Div.EV{j g:Int}(d:ak a b j g)(k:0<=(Big.bV a b j.toNat-g*v0 b)/pw b.length):g=Big.bV a b j.toNat/v0 b/\Big.bV a b j.toNat-g*v0 b=Big.bV a b j.toNat%v0 b/\(Big.bV a b j.toNat-g*v0 b)/pw b.length=0:=by
 obtain⟨m,u,o,p⟩:=d;have q:=bN b.length;have h:=c.vp;have r:=c.v2;have w:0<=Big.bV a b j.toNat-g*v0 b:=by
  rw[Qp q]at k;omega
 have x:g<=Big.bV a b j.toNat/v0 b:=by rw[Qp h];omega
 have e:g=Big.bV a b j.toNat/v0 b:=by omega
 have i:Big.bV a b j.toNat-g*v0 b=Big.bV a b j.toNat%v0 b:=by
  have:=Qs (Big.bV a b j.toNat) (v0 b);rw[e,J6];omega
 refine⟨e,i,?_⟩;have y:=Jo (Big.bV a b j.toNat) h;rw[i];exact Qq (by omega) (by omega)
theorem Div.Ek{j g:Int}(d:ak a b j g)(w:(Big.bV a b j.toNat-g*v0 b)/pw b.length<0):g-1=Big.bV a b j.toNat/v0 b/\Big.bV a b j.toNat-g*v0 b=Big.bV a b j.toNat%v0 b-v0 b/\(Big.bV a b j.toNat-g*v0 b)/pw b.length= -1:=by
 obtain⟨k,x,m,o⟩:=d;have p:=bN b.length;have i:=c.vp;have q:=c.v2;have y:Big.bV a b j.toNat-g*v0 b<0:=by
  rcases Qe (Big.bV a b j.toNat-g*v0 b) 0 with h|h
  . exact h
  . have:=Kb h (show 0<=pw b.length by omega);omega
 have z:g-1<=Big.bV a b j.toNat/v0 b:=by rw[Qp i];omega
 have A:Big.bV a b j.toNat/v0 b<g:=(Kl i).2 (by omega);have e:g-1=Big.bV a b j.toNat/v0 b:=by omega
 have r:Big.bV a b j.toNat-g*v0 b=Big.bV a b j.toNat%v0 b-v0 b:=by
  have u:=Qs (Big.bV a b j.toNat) (v0 b);rw[<-e,J6,Int.sub_mul,K8]at u;omega
 refine⟨e,r,?_⟩;have B:=Jo (Big.bV a b j.toNat) i;have C:=Jm (Big.bV a b j.toNat) (show v0 b≠0 by omega);have D: -1<=(Big.bV a b j.toNat-g*v0 b)/pw b.length:=by rw[Qp p];omega
 omega
omit c in
theorem V9{j:Int}{u:Ω}(d:u=dg j.toNat (u0 a b)++(dg b.length (Big.bV a b j.toNat%v0 b-v0 b)++4294967295::List.replicate (a.length-j.toNat-b.length) 0)):mP a b j 0 0 u:=by
 unfold mP;rw[d];simp[fh,Int.emod_one,M1]
theorem Div.inv4_step{j i x:Int}{u:Ω}(h:mP a b j i x u)(hi:i<b.length):
 0<=x/\x<=1/\GD (u.getD (i+j.toNat).toNat 0)/\∀s,s=u.getD (i+j.toNat).toNat 0+v0 b/pw i.toNat%4294967296+x->mP a b j (i+1) (s/4294967296) (u.set (i+j.toNat).toNat (V s)):=by
 unfold mP at h⊢;obtain⟨y,A,B,p⟩:=h;generalize Big.bV a b j.toNat%v0 b-v0 b=T at*
 have e:=bN i.toNat;have C:=Jm T (uE i.toNat);have q:=Jo T e;have D:=Jm (v0 b) (uE i.toNat);have r:=Jo (v0 b) e;have E:=sJ (z:=T%pw i.toNat+v0 b%pw i.toNat) (k:=i.toNat) (m:=2) (by omega) (by omega);have w:(i+(j.toNat:Int)).toNat=j.toNat+i.toNat:=by omega
 rw[w,show(i+1).toNat=i.toNat+1 by omega];have hu:u=(dg j.toNat (u0 a b)++dg i.toNat (T%pw i.toNat+v0 b%pw i.toNat))++(T/pw i.toNat%4294967296)::(dg (b.length-(i.toNat+1)) (T/pw (i.toNat+1))++4294967295::List.replicate (a.length-j.toNat-b.length) 0):=by
  rw[p,show b.length-i.toNat=(b.length-(i.toNat+1))+1 by omega,dg,cq];simp
 have d:u.getD (j.toNat+i.toNat) 0=T/pw i.toNat%4294967296:=by
  rw[hu];exact get_at (by simp)
 rw[d];refine⟨by omega,by omega,⟨by omega,by omega⟩,λs F=>?_⟩;have o:T%pw (i.toNat+1)+v0 b%pw (i.toNat+1)=T%pw i.toNat+v0 b%pw i.toNat+pw i.toNat*(T/pw i.toNat%4294967296+v0 b/pw i.toNat%4294967296):=by
  rw[mod_succ T,mod_succ (v0 b),Kg];omega
 have es:(T%pw i.toNat+v0 b%pw i.toNat)/pw i.toNat+(T/pw i.toNat%4294967296+v0 b/pw i.toNat%4294967296)=s:=by omega
 refine⟨by omega,by omega,?_,?_⟩
 . rw[o,lH,es]
 . rw[hu,cG (by simp),o,uL,es,iA];simp
theorem Div.ME{j i x:Int}{u:Ω}(h:mP a b j i x u)(hi:(b.length:Int)<=i):
 x=1/\u.getD (j.toNat+b.length) 0=4294967295/\∀y,u.set (j.toNat+b.length) y=dg j.toNat (u0 a b)++(dg b.length (Big.bV a b j.toNat%v0 b)++y::List.replicate (a.length-j.toNat-b.length) 0):=by
 unfold mP at h;obtain⟨A,B,k,d⟩:=h;have e:i.toNat=b.length:=by omega
 rw[e]at k d;have C:=bN b.length;have m:=c.v2;have o:=c.vp;have p:v0 b%pw b.length=v0 b:=Qr (by omega) m;have q:=Jm (Big.bV a b j.toNat) (show v0 b≠0 by omega);have r:=Jo (Big.bV a b j.toNat) o;have w:(Big.bV a b j.toNat%v0 b-v0 b)%pw b.length=Big.bV a b j.toNat%v0 b-v0 b+pw b.length:=by
  rw[<-Int.add_emod_right];exact Qr (by omega) (by omega)
 have z:Big.bV a b j.toNat%v0 b-v0 b+pw b.length+v0 b=Big.bV a b j.toNat%v0 b+pw b.length*1:=by omega
 rw[w,p,z]at k d;rw[nw,Qq q (by omega)]at k;rw[Nat.sub_self,M1,Jj,dg_high]at d;have hu:u=(dg j.toNat (u0 a b)++dg b.length (Big.bV a b j.toNat%v0 b))++4294967295::List.replicate (a.length-j.toNat-b.length) 0:=by
  rw[d];simp
 refine⟨by omega,by rw[hu];exact get_at (by simp),λy=>?_⟩;rw[hu,cG (by simp)];simp
end
end Go.Proofs.Big
