import Derived.Test.YtpjiopgakifhaaaGreatRA
import Derived.Test.YtpjiopgakifhaaaGreatRJ
import Derived.Test.YtpjiopgakifhaaaGreatRO
set_option linter.unusedSectionVars false
set_option linter.unusedSimpArgs false
set_option linter.unusedVariables false
set_option maxRecDepth 100000
namespace Go.Proofs.Big
open Go Go.Sx Go.Proofs Tryz
variable [bW]
attribute [local irreducible] lm nv tl dg dz
def eR(p:Ω):Ω:=ah aj p.length λi=>aj.enc (p.getD i (0:Int))
def uR(p:Ω):Ω:=ah aj p.length λi=>aj.enc (p.getD ((0:Nat)+i) (0:Int))
def DH(p:Ω):Ω:=ag (eR p)
def wo(p:Ω):Int:=p.getD ((0:Nat)+(W (p.length-(1:Int))).toNat) (0:Int)
def pW(x:Int):Prop:=sm (decide (x<(0:Int)))/\(sm ((dz x).length)/\∀i,i<(dz x).length->sm ((dz x).getD i (0:Int))/\True)/\True
def bw(p:Ω):Int:=p.getD (p.length-1) 0
def qA(l t:Int):Int:=(l.natAbs:Int).tdiv (Int.gcd l t)
def qB(l t:Int):Int:=if l<0 then-(t.tdiv (Int.gcd l t))else t.tdiv (Int.gcd l t)
def rF(r g:Ω)(a b:Int)(s:Nat)(i:Nat):Int:=if s<=i then r.getD i 0*a-b*g.getD (i-s) 0 else r.getD i 0*a
def iX(r g:Ω):Ω:=(List.range r.length).map (rF r g (qA (bw g) (bw r)) (qB (bw g) (bw r)) (r.length-g.length))
def jT:Nat->Ω->Ω->Ω
 |0,r,_=>r
 |n+1,r,g=>if g.length<=r.length then jT n (ag (iX r g)) g else r
def dh(p g:Ω):Ω:=jT (ag p).length (ag p) (ag g)
def ov(p g:Ω):Prop:=bj 50000 p/\bj 50000 g/\p.length<=8/\g.length<=8/\ag g≠[]
def FM(p g r:Ω):Prop:=bj (50000+50001*(8-r.length)) r/\r.length<=8/\jT r.length r (ag g)=dh p g
def ll(g c:Ω)(a b s i:Int)(l:Ω):Prop:=bj 450008 c/\c.length<=8/\(a.natAbs:Int)<pw 50000/\(b.natAbs:Int)<pw 450008/\0<=s/\0<=i/\i<=c.length/\l=(List.range i.toNat).map (rF c (ag g) a b s.toNat)++c.drop i.toNat
attribute [irreducible] bw qA qB rF iX jT dh ov FM ll
def c309:bB:=ow Hs.dec (λa=>ov a.1 a.2) (λa=>pS (dh a.1 a.2))
def V1:List (Nat×bB):=(309,c309)::WR
def a309(p:Ω)(g:Ω):List kM:=[⟨.unit,.list [.ah aj 0 204 [.tm 5],.fogT [16],.sw1 0 9],λ_ (x:Ω×Unit×Unit)=>FM p g x.1,λ_ (x:Ω×Unit×Unit)=>x.1.length⟩,⟨.list [.ah aj 0 204 [.tm 5],.cod aj 5 0,.cod aj 7 0,.int .i64 (.tm 13)],.list [.int .i64 (.tm 64),.ah aj 0 204 [.tm 5]],λ(y:Ω×Int×Int×Int)(x:Int×Ω)=>ll g y.1 y.2.1 y.2.2.1 y.2.2.2 x.1 x.2,λ(y:Ω×Int×Int×Int)(x:Int×Ω)=>(y.1.length-x.1).toNat⟩]
def S5(p:Ω)(g:Ω):Prop:=fQ WR f309 (a309 p g) [pS p,pS g] (pS (dh p g))
theorem OW(p:Ω)(g:Ω):(
 let d:=λ(m:Ω)=>m.length
 let x:=λ(m:Nat)(s:Ω)=>m<d s
 let d0:=true=true
 let c:=aj
 let f:=λ(m:Ω)=>eR m
 let e4:=λ(m:Ω)=>(∀(i:Nat),x i m->d0/\c.ak (c.enc (m.getD i 0)))/\cr (f m)
 let y:=λ(m:Ω)=>(DH m).length
 let M:=λ(m:Ω)=>(↑(y m):Int)
 let c0:=λ(m:Ω)=>W (M m-1)
 let C:=sm 0
 let F:=λ(m:Ω)=>C/\sm (y m)
 let e5:=λ(m:Ω)=>y m=(eR (DH m)).length
 let e6:=ab 93 True
 let e7:=([]:List (Option (Nat×Nat)))
 let t:=e7=e7
 let d1:=c.n
 let N:=2=d1
 let O:=λ(m:Ω)(s:Nat)=>(DH m).getD s 0
 let e8:=λ(m:Ω)(s:Nat)=>dz ((eR (DH m)).getD s 0)
 let d2:=λ(m:Ω)=>(sm (y m)/\sm 2/\∀i,i<y m->pW (O m i))/\True
 let e9:=List.map ar.shape ([ar.s SV.ff]++([ar.s SV.aq]++[]))
 let k:=e9=e9
 let d3:=λ(m:Ω)=>sm (decide ((DH m).getD (0+(c0 m).toNat) 0<0))/\(sm (dz (wo (DH m))).length/\∀i,i<(dz (wo (DH m))).length
  ->sm ((dz (wo (DH m))).getD i 0)/\True)/\True
 let f0:=λ(m:Ω)=>t/\d2 m/\k/\d3 m/\True
 let q:=λ(m:Ω)=>(↑(d m):Int)
 let f1:=λ(m s:Ω)=>decide (q m>=M s)
 let c1:=λ(m:Ω)=>W (q m-1)
 let d4:=λ(m:Ω)=>c.ak (zc (wo (DH m)))
 let G:=λ(m:Ω)=>zz (wo (DH m))
 let P:=λ(m:Ω)=>(↑(G m).natAbs:Int)
 let Q:=λ(m s:Ω)=>(↑((G m).gcd (zz (wo s))):Int)
 let D:=λ(m s:Ω)=>zz (Q m s)
 let f2:=λ(m s:Ω)=>fit (D m s)/\D m s≠0
 let R:=ru true
 let f3:=λ(m:Ω)=>decide (aW (G m)<0)
 let c2:=λ(m s:Ω)=>(zz (wo m)).tdiv (D s m)
 let w:=λ(m s:Ω)=>zz (c2 m s)
 let c3:=λ(m s:Ω)=>(zz (P m)).tdiv (D m s)
 let h:=λ(m s:Ω)=>zz (c3 m s)
 let z:=λ(m s:Ω)=>zz (-zz ((zz (wo m)).tdiv (zz ↑((zz (wo (DH s))).gcd (zz (wo m))))))
 let e:=λ(m s:Ω)=>W (q m-M s)
 let f4:=ab 34 True
 let f5:=λ(m s:Ω)=>True/\F m/\ab (3:Nat) ((C/\d s=(f s).length)/\ab (7:Nat) (sm (e s m)/\ab (49:Nat) (q s=q s/\sm (0:Int)/\f4)))
 let f6:=λ(m:Ω)(s:Nat)=>decide (m.getD s 0<0)
 let d5:=λ(m:Ω)(s:Nat)=>(dz (m.getD s 0)).length
 let f7:=λ(m:Ω)=>(d m=(f m).length/\d1=d1/\∀(i:Nat),x i m->f6 m i=decide ((f m).getD i 0<0)/\(d5 m i=(dz ((f m).getD i 0)).length
  /\∀(ac:Nat),ac<d5 m i->(dz (m.getD i 0)).getD ac 0=(dz ((f m).getD i 0)).getD ac 0/\True)/\True)/\True
 let f8:=λ(m:Ω)=>sm (decide (m.getD (0+(c1 m).toNat) 0<0))/\(sm (dz (wo m)).length/\∀i,i<(dz (wo m)).length->sm ((dz (wo m)).getD
  i 0)/\True)/\True
 let f9:=λ(m s:Ω)=>k/\pW ((zz (wo m)).tmod (D s m))/\True
 let d6:=λ(m s:Ω)=>t/\d2 m/\k/\d3 m/\k/\f8 s/\k/\pW (Q m s)/\k/\pW (c3 m s)/\k/\pW ((zz (P m)).tmod (D m s))/\k/\pW (-zz ((zz (wo
  s)).tdiv (zz ↑((zz (wo (DH m))).gcd (zz (wo s))))))/\f9 s m
 let A:=λ(m:Int)(s:Ω)=>0<=m/\m<q s
 let T:=λ(m:Int)=>0+m.toNat
 let B:=λ(m:Int)(s:Ω)=>T m<d s
 let o:=λ(m:Ω)(s:Int)=>m.getD (T s) 0
 let g0:=λ(m s X:Ω)(Z:Int)=>(c.ak (zc (o m Z))/\c.ak (zc (c3 s X)))/\fit (zz (o m Z))/\fit (h s X)
 let g1:=λ(m:Int)(s X:Ω)=>0<=W (m-e s X)/\W (m-e s X)<M X
 let g2:=λ(m:Int)(s X:Ω)=>0+(W (m-e s X)).toNat<y X
 let u:=λ(m s:Ω)(X:Int)=>(DH m).getD (0+(W (X-e s m)).toNat) 0
 let c4:=λ(m:Int)=>decide (T m=T m)
 let g3:=λ(m:Int)(s X Z:Ω)=>if c4 m=true then decide (zz (o s m)*h X Z<0)else decide (o s m<0)
 let g4:=λ(m:Int)(s X Z:Ω)=>if c4 m=true then(dz (zz (o s m)*h X Z)).length else(dz (o s m)).length
 let v:=aF IntKind.u32
 let g5:=λ(m:Int)(s X Z:Ω)(u1:Nat)=>if c4 m=true then v.enc ((dz (zz (o s m)*h X Z)).getD u1 0)else v.enc ((dz (o s m)).getD u1 0)
 let g6:=λ(m:Int)(s X Z:Ω)=>c.ak [SV.bool (g3 m s X Z),SV.bF 1 (g4 m s X Z) λi=>g5 m s X Z i]
 let c5:=λ(m:Int)(s X Z:Ω)=>zv (g3 m s X Z) (ah v (g4 m s X Z) (g5 m s X Z))
 let H:=λ(m:Int)=>W (m+1)
 let r:=λ(m:Nat)(s:Int)=>decide (m=T s)
 let g7:=λ(m s X:Ω)(Z:Int)=>cE (c.enc (o m Z)) 0 (zc (zz (o m Z)*h s X))
 let g8:=λ(m:Int)(s X Z:Ω)=>af (c4 m) (g7 s X Z m) (c.enc (o s m))
 let c6:=λ(m:Int)(s X Z:Ω)=>c5 m s X Z-zz (z Z X*zz (u X Z m))
 let d7:=λ(m:Nat)(s:Int)(X Z u1:Ω)=>af (r m s) (g7 X Z u1 s) (c.enc (X.getD m 0))
 let J:=λ(m s X:Ω)(Z:Int)=>ah c (d m) λi'=>af (r i' Z) (cE (g8 Z m s X) 0 (zc (c6 Z m s X))) (d7 i' Z m s X)
 let g9:=λ(m:Ω)=>(↑(f m).length:Int)
 let c7:=λ(m:Ω)(s:Int)=>(g9 m-H s).toNat<(g9 m-s).toNat
 let d8:=λ(m s:Ω)(X:Int)=>ab 7 (sm (e m s)/\ab 49 (q m=q m/\sm (H X)/\f4))
 let d9:=λ(m:Nat)(s:Int)(X Z u1:Ω)=>if r m s=true then decide (zz (o X s)*h Z u1<0)else f6 X m
 let c8:=λ(m:Nat)(s:Int)(X Z u1:Ω)=>if r m s=true then(dz (zz (o X s)*h Z u1)).length else d5 X m
 let h0:=λ(m:Nat)(s:Int)(X Z u1:Ω)=>if r m s=true then(dz (c6 s X Z u1)).length else c8 m s X Z u1
 let e0:=λ(m s:Nat)(X:Int)(Z u1 v1:Ω)=>if r m X=true then v.enc ((dz (zz (o Z X)*h u1 v1)).getD s 0)else v.enc ((dz (Z.getD m 0)).getD
  s 0)
 let E:=λ(m s X:Ω)(Z:Int)=>ah c (d m) λi'=>d7 i' Z m s X
 let h1:=λ(m s X:Ω)(Z:Int)=>True/\F m/\ab 3 ((C/\d s=(E s m X Z).length)/\d8 X m Z)
 let h2:=λ(m s X:Ω)(Z:Int)=>(d m=(E m s X Z).length/\N/\∀(i:Nat),x i m->d9 i Z m s X=decide ((E m s X Z).getD i 0<0)/\(c8
  i Z m s X=(dz ((E m s X Z).getD i 0)).length/\∀(ac:Nat),ac<c8 i Z m s X->bK (e0 i ac Z m s X) (v.enc ((dz ((E m s X Z).getD i 0)).getD ac
  0)))/\True)/\True
 let h3:=λ(m:Ω)=>0+d m<=d m/\∀(i:Nat),x i m->d0
 let e1:=λ(m:Ω)=>(ag (uR m)).length
 let h8:=λ(m:Ω)(s:Nat)=>List.map (rE 0 9 iK) (c.enc ((ag (uR m)).getD s 0))
 let K:=λ(m:Ω)=>ah c (e1 m) λi=>h8 m i
 let h4:=λ(m:Ω)=>e1 m=(K m).length
 let e2:=λ(m:Ω)(s:Nat)=>dz ((ag (uR m)).getD s 0)
 let h5:=λ(m:Int)(s X Z u1:Ω)=>decide (m<q s)=false->h3 X/\((∀(i:Nat),x i X->d0/\c.ak ((λ(j:Nat)=>aj.enc (X.getD j
  0)) (0+i)))/\cr (uR X))/\True/\FM Z u1 (K X)/\(K X).length<d s/\(True/\F u1/\ab 3 ((C/\h4 X)/\e6))/\t/\((h4 X/\N/\∀(i:Nat),i
  <e1 X->decide ((ag (uR X)).getD i 0<0)=decide ((K X).getD i 0<0)/\((e2 X i).length=(dz ((K X).getD i 0)).length/\∀(ac:Nat),ac<(e2 X
  i).length->(e2 X i).getD ac 0=(dz ((K X).getD i 0)).getD ac 0/\True)/\True)/\True)/\f0 u1
 let e3:=λ(m s:Ω)=>t/\d2 m/\k/\d3 m/\k/\f8 s/\k/\pW (Q m s)/\k/\pW (c3 m s)/\k/\pW ((zz (P m)).tmod (D m s))/\k/\pW (c2 s m)/\f9
  s m
 let c9:=λ(m:Int)(s X Z:Ω)=>c5 m s X Z-zz (w Z X*zz (u X Z m))
 let L:=λ(m s X:Ω)(Z:Int)=>ah c (d m) λi'=>af (r i' Z) (cE (g8 Z m s X) 0 (zc (c9 Z m s X))) (d7 i' Z m s X)
 let h6:=λ(m:Nat)(s:Int)(X Z u1:Ω)=>if r m s=true then(dz (c9 s X Z u1)).length else c8 m s X Z u1
 let h7:=λ(m:Ω)(s:Nat)=>(dz (m.getD (0+s) 0)).length
 ab 2 (e4 p/\True/\e4 g/\True/\(0<=c0 g/\c0 g<M g)/\0+(c0 g).toNat<y g/\True/\(FM p g (eR (DH p))/\(True/\F g/\ab 3 ((C/\e5 p)/\e6))/\
  t/\((e5 p/\N/\∀i,i<y p->decide (O p i<0)=decide ((eR (DH p)).getD i 0<0)/\((dz (O p i)).length=(e8 p i).length/\∀(ac:Nat),ac<
  (dz (O p i)).length->(dz (O p i)).getD ac 0=(e8 p i).getD ac 0/\True)/\True)/\True)/\f0 g)/\∀(l:Ω),FM p g l->True/\(f1 l g=true->(0
  <=c1 l/\c1 l<q l)/\0+(c1 l).toNat<d l/\ab 3 (((d4 g/\c.ak (zc (wo l)))/\fit (G g)/\fit (zz (wo l)))/\ab 2 ((d4 g/\fit (G g))/\ab 2 (((c.ak
  (zc (P g))/\c.ak (zc (Q g l)))/\fit (zz (P g))/\f2 g l)/\R/\ab 2 (((c.ak (zc (wo l))/\c.ak (zc (Q g l)))/\fit (zz (wo l))/\f2 g l)/\ab 2 ((d4
  g/\fit (G g))/\True/\(f3 g=true->True/\(c.ak (zc (c2 l g))/\fit (w l g))/\ab 3 ((ll g (f l) (h g l) (z l g) (e l g) 0 (f l)/\f5 g l/\t/\f7 l
  /\d6 g l)/\∀(n:Int)(b:Ω),ll g (f l) (h g l) (z l g) (e l g) n b->True/\(decide (n<q l)=true->True/\A n b/\B n b/\ab 2 (g0
  b g l n/\A n b/\B n b/\R/\True/\(decide (n>=e l g)=true->A n b/\B n b/\g1 n l g/\g2 n l g/\ab 2 (((c.ak (zc (-zz ((zz (wo l)).tdiv (zz
  ↑((zz (wo (DH g))).gcd (zz (wo l)))))))/\c.ak (zc (u g l n)))/\fit (z l g)/\fit (zz (u g l n)))/\ab 2 (((g6 n b g l/\c.ak (zc (z l g*zz (u g l n))))
  /\fit (c5 n b g l)/\fit (zz (z l g*zz (u g l n))))/\A n b/\B n b/\R/\True/\ll g (f l) (h g l) (z l g) (e l g) (H n) (J b g l n)/\c7 l n/\(True
  /\F g/\ab 3 ((C/\d b=(J b g l n).length)/\d8 l g n))/\t/\((d b=(J b g l n).length/\N/\∀(i:Nat),x i b->(if r i n=true then decide (c6
  n b g l<0)else d9 i n b g l)=decide ((J b g l n).getD i 0<0)/\(h0 i n b g l=(dz ((J b g l n).getD i 0)).length/\∀(ac:Nat),ac<h0 i n
  b g l->bK (if r i n=true then v.enc ((dz (c6 n b g l)).getD ac 0)else e0 i ac n b g l) (v.enc ((dz ((J b g l n).getD i 0)).getD ac 0)))/\True)
  /\True)/\d6 g l)))/\(decide (n>=e l g)=false->True/\ll g (f l) (h g l) (z l g) (e l g) (H n) (E b g l n)/\c7 l n/\h1 g b l n/\t/\h2 b g l n
  /\d6 g l)))/\h5 n l b p g))/\(f3 g=false->ab 2 ((ll g (f l) (h g l) (w l g) (e l g) 0 (f l)/\f5 g l/\t/\f7 l/\e3 g l)/\∀(n:Int) (b:List
  Int),ll g (f l) (h g l) (w l g) (e l g) n b->True/\(decide (n<q l)=true->True/\A n b/\B n b/\ab 2 (g0 b g l n/\A n b/\B n b/\R/\
  True/\(decide (n>=e l g)=true->A n b/\B n b/\g1 n l g/\g2 n l g/\ab 2 (((c.ak (zc (c2 l g))/\c.ak (zc (u g l n)))/\fit (w l g)/\fit (zz (u g
  l n)))/\ab 2 (((g6 n b g l/\c.ak (zc (w l g*zz (u g l n))))/\fit (c5 n b g l)/\fit (zz (w l g*zz (u g l n))))/\A n b/\B n b/\R/\True/\ll
  g (f l) (h g l) (w l g) (e l g) (H n) (L b g l n)/\c7 l n/\(True/\F g/\ab 3 ((C/\d b=(L b g l n).length)/\d8 l g n))/\t/\((d b=(L b g l n).length
  /\N/\∀(i:Nat),x i b->(if r i n=true then decide (c9 n b g l<0)else d9 i n b g l)=decide ((L b g l n).getD i 0<0)/\(h6 i n b g l=(dz ((L
  b g l n).getD i 0)).length/\∀(ac:Nat),ac<h6 i n b g l->bK (if r i n=true then v.enc ((dz (c9 n b g l)).getD ac 0)else e0 i ac n b g l) (v.enc
  ((dz ((L b g l n).getD i 0)).getD ac 0)))/\True)/\True)/\e3 g l)))/\(decide (n>=e l g)=false->True/\ll g (f l) (h g l) (w l g) (e l g) (H n) (E
  b g l n)/\c7 l n/\h1 g b l n/\t/\h2 b g l n/\e3 g l)))/\h5 n l b p g))))))))/\(f1 l g=false->True/\h3 l/\(d l=(dh p g).length/\∀(i:Nat),
  x i l->decide (l.getD (0+i) 0<0)=decide ((dh p g).getD i 0<0)/\(h7 l i=(dz ((dh p g).getD i 0)).length/\∀(ac:Nat),ac<h7 l i->(dz (l.getD
  (0+i) 0)).getD ac 0=(dz ((dh p g).getD i 0)).getD ac 0/\True)/\True)/\True)))=S5 p g:=by kernel_rfl
@[simp] theorem WA(p:Ω):eR p=p:=rK p
@[simp] theorem rwZ0_eq(p:Ω):uR p=p:=by unfold uR;simp only[Jg];exact rK p
@[simp] theorem smZ_eq(x:Int):pW x:=⟨rfl,⟨rfl,λ_ _=>⟨rfl,trivial⟩⟩,trivial⟩
@[simp] theorem ren_enc(a b:Nat)(z:Int):List.map (rE a b iK) (aj.enc z)=aj.enc z:=by rw[M3];rfl
theorem Ww(p:Ω):DH p=ag p:=by unfold DH;rw[WA]
theorem bP{k:Nat}{p:Ω}(h:bj k p):bj k (ag p):=by
 have b:=fZ h;unfold ag;split
 . unfold bj at*
   refine⟨by simpa using b.1,λz c=>?_⟩;obtain⟨x,d,rfl⟩:=Kh.1 c;have:=b.2 x d;rw[Xk];have:x.natAbs.div (iD (ae p)).natAbs<=x.natAbs:=Za x.natAbs (iD (ae p)).natAbs;omega
 . exact b
theorem En{p:Ω}{z:Int}(h:z∈p):lu p∣z.natAbs:=by
 induction p with
 |nil=>simp at h
 |cons x r b=>
  rw[ry];rcases Kd.1 h with rfl|h
  . exact Nat.gcd_dvd_right _ _
  . exact Nat.dvd_trans (Nat.gcd_dvd_left _ _) (b h)
theorem aN(p:Ω):bw p=p.getD (p.length-1) 0:=by unfold bw;rfl
theorem LK{p:Ω}(h:0<p.length)(b:p.length<=1000):wo p=bw p:=by
 unfold wo;rw[aN,aO (by omega) (by omega)]
 congr 1;omega
theorem lQ{p:Ω}(h:0<(ae p).length):bw (ae p)≠0:=by
 rw[aN,ck,bn];rw[bn]at h;intro e;have:=(qQ (l:=p) (n:=tl p) (J1 _) (cX p)).1 ⟨h,e⟩;omega
theorem ic{p:Ω}(h:ag p≠[]):bw (ag p)≠0:=by
 have i:0<(ae p).length:=by rw[<-fw];exact Xa.2 h
 have c:=lQ i;have hm:bw (ae p)∈ae p:=by
  rw[aN,J0,J4 (by omega)];exact Ku _
 rw[aN,fw];rw[aN]at c hm;unfold ag;split
 . rename_i j;rw[J0,J5,J4 (by omega)];rw[J0,J4 (by omega)]at c hm;simp only[K4,K5]at c hm⊢;generalize (ae p)[(ae p).length-1]=z at*
   rw[mT]at j⊢;obtain⟨m,b⟩:=En hm;intro e;have d:(z.tdiv (lu (ae p):Int)).natAbs=0:=by rw[e];rfl
   rw[Xk,Y5,b]at d
   change lu (ae p)*m/lu (ae p)=0 at d
   rw[Nat.mul_div_cancel_left _ (by omega)]at d;rw[d]at b;omega
 . exact c
theorem L7(l t:Int):qA l t=(l.natAbs:Int)/(Int.gcd l t:Int):=by
 unfold qA;exact Ky (by omega)
theorem Pq(l t:Int):(qA l t).natAbs<=l.natAbs:=by
 unfold qA;rw[Xk,Y5];exact Za _ _
theorem Nx(l t:Int):(qB l t).natAbs<=t.natAbs:=by
 have:=Za t.natAbs (Int.gcd l t:Int).natAbs;unfold qB;split
 . rw[Int.natAbs_neg,Xk];exact this
 . rw[Xk];exact this
theorem qAB{l t:Int}(e:l≠0):t*qA l t-qB l t*l=0:=by
 have h:((Int.gcd l t:Nat):Int)∣l:=Int.gcd_dvd_left ..;have i:((Int.gcd l t:Nat):Int)∣t:=Int.gcd_dvd_right ..;have c:((Int.gcd l t:Nat):Int)≠0:=by
  have:=KO (b:=t) e;omega
 rw[L7];unfold qB;generalize ((Int.gcd l t:Nat):Int)=d at*
 obtain⟨x,rfl⟩:=h;obtain⟨y,rfl⟩:=i;rw[Int.mul_tdiv_cancel_left _ c];split
 . rename_i j;rw[show(((d*x).natAbs:Nat):Int)=d*(-x) by rw[JR];omega,KL _ c];rw[JR,Int.neg_mul,Jk,X7 y d x,J6 y x];omega
 . rename_i j;rw[show(((d*x).natAbs:Nat):Int)=d*x by omega,KL _ c,Jk,X7 y d x,J6 y x];omega
theorem tS(r g:Ω):(iX r g).length=r.length:=by unfold iX;simp
theorem AL(r g:Ω){i:Nat}(h:i<r.length):(iX r g).getD i 0=rF r g (qA (bw g) (bw r)) (qB (bw g) (bw r)) (r.length-g.length) i:=by
 unfold iX;rw[J0,J5,Q9 h];rfl
theorem qO{r g:Ω}(e:0<g.length)(h:g.length<=r.length)(c:bw g≠0):(ag (iX r g)).length<r.length:=by
 have d:(iX r g).getD (r.length-1) 0=0:=by
  rw[AL _ _ (by omega)];unfold rF;rw[JB (by omega),show r.length-1-(r.length-g.length)=g.length-1 by omega,<-aN,<-aN];exact qAB c
 rw[fw,bn];have b:=cX (iX r g);rw[tS]at b;have:=(qQ (l:=iX r g) (n:=r.length) b (by rw[tS];omega)).1 ⟨by omega,d⟩;exact this
theorem BW{r g:Ω}{a b:Int}{k s i:Nat}(d:bj k r)(h:bj 50000 g)(m:(a.natAbs:Int)<pw 50000)(o:(b.natAbs:Int)<pw k):
 ((r.getD i 0*a).natAbs:Int)<pw (k+50001)/\(∀j,((b*g.getD j 0).natAbs:Int)<pw (k+50001))/\((rF r g a b s i).natAbs:Int)<pw (k+50001):=by
 have p:=bQ (bU d i) m;have c:=λj=>bQ o (bU h j)
 have e:pw (k+50001)=4294967296*(pw k*pw 50000):=by rw[show k+50001=(k+50000)+1 by omega,bD,gG]
 have q:0<pw k*pw 50000:=Je (bN _) (bN _);rw[e];refine⟨by omega,λj=>by have:=c j;omega,?_⟩;unfold rF;split
 . have:=c (i-s);omega
 . omega
theorem Rb{r g:Ω}{k:Nat}(b:bj k r)(c:bj 50000 g):bj (k+50001) (iX r g):=by
 refine jd (by rw[tS];exact jm b) λz d=>?_
 unfold iX at d;obtain⟨i,_,rfl⟩:=Kh.1 d;refine(BW b c ?_ ?_).2.2
 . have:=Pq (bw g) (bw r);have:=bU c (g.length-1);rw[aN g]at*;omega
 . have:=Nx (bw g) (bw r);have:=bU b (r.length-1);rw[aN r]at*;omega
theorem HQ(r g:Ω):jT 0 r g=r:=by unfold jT;rfl
theorem pN(n:Nat)(r g:Ω):jT (n+1) r g=if g.length<=r.length then jT n (ag (iX r g)) g else r:=by rw[jT]
theorem mS{n:Nat}{r g:Ω}(h:r.length<g.length):jT n r g=r:=by
 cases n with
 |zero=>exact HQ _ _
 |succ n=>rw[pN,JA (by omega)]
theorem ZX{n:Nat}{r g:Ω}(d:0<g.length)(i:bw g≠0)(h:r.length<=n):jT n r g=jT r.length r g:=by
 induction n using Nat.strongRecOn generalizing r with
 |_ n b=>
  by_cases c:g.length<=r.length
  . obtain⟨m,rfl⟩:∃m,n=m+1:=⟨n-1,by omega⟩;obtain⟨q,j⟩:∃q,r.length=q+1:=⟨r.length-1,by omega⟩;have k:=qO d c i;rw[j,pN,pN,JB c,JB c,b m (by omega) (by omega)]
    by_cases e:q=m
    . subst e;rw[b q (by omega) (by omega)]
    . rw[b q (by omega) (by omega)]
  . rw[mS (by omega),mS (by omega)]
theorem Bj{g l c:Ω}{a b s n:Int}(h:ll g l a b s n c):c.length=l.length:=by
 unfold ll at h;obtain⟨_,_,_,_,_,d,e,rfl⟩:=h;simp;omega
theorem BJ{g l c:Ω}{a b s n:Int}(h:ll g l a b s n c):c.getD n.toNat 0=l.getD n.toNat 0:=by
 unfold ll at h;obtain⟨_,_,_,_,_,d,e,rfl⟩:=h;rw[J0,Jy (by simp)];simp
theorem nL{g l d:Ω}{a b s n v:Int}(h:ll g l a b s n d)(q:n<l.length)(e:v=rF l (ag g) a b s.toNat n.toNat):ll g l a b s (n+1) (d.set n.toNat v):=by
 unfold ll at h⊢;obtain⟨i,j,k,m,o,r,u,p⟩:=h;refine⟨i,j,k,m,o,by omega,by omega,?_⟩;have c:n.toNat<l.length:=by omega
 rw[p,Qa c,cG (by simp),show(n+1).toNat=n.toNat+1 by omega,Q7,e];simp
theorem Bv{g l c:Ω}{a b s n:Int}(h:ll g l a b s n c)(k:(l.length:Int)<=n)(d:a=qA (bw (ag g)) (bw l))(e:b=qB (bw (ag g)) (bw l))(i:s=(l.length-(ag g).length:Nat)):c=iX l (ag g):=by
 unfold ll at h;obtain⟨m,o,p,q,r,u,w,j⟩:=h;rw[j,show n.toNat=l.length by omega];subst d;subst e;subst i;unfold iX;simp
theorem yC{p g:Ω}(h:ov p g):bj 50000 p/\bj 50000 g/\p.length<=8/\g.length<=8/\ag g≠[]:=by unfold ov at h;exact h
theorem so{p g r:Ω}(h:FM p g r):bj (50000+50001*(8-r.length)) r/\r.length<=8/\jT r.length r (ag g)=dh p g:=by unfold FM at h;exact h
theorem GR{p g l:Ω}(i:ov p g)(h:FM p g l)(b:(ag g).length<=l.length):cr (iX l (ag g))/\FM p g (ag (iX l (ag g)))/\(ag (iX l (ag g))).length<l.length:=by
 obtain⟨r,j,u,w,c⟩:=yC i;obtain⟨k,x,o⟩:=so h;have d:0<(ag g).length:=Xa.2 c;have q:=qO d b (ic c);have e:=Rb k (bP j);refine⟨bu e (by omega),?_,q⟩;unfold FM;refine⟨an (bP e) (by omega),by omega,?_⟩;rw[<-o];obtain⟨m,hm⟩:∃m,l.length=m+1:=⟨l.length-1,by omega⟩;rw[hm,pN,JB (by omega),ZX (n:=m) d (ic c) (by omega)]
theorem xd{z:Int}:aW z<0↔z<0:=by
 unfold aW;split
 . constructor<;>intro h<;>omega
 . split<;>constructor<;>intro h<;>omega
theorem wx{g l c:Ω}{a b s n:Int}(h:ll g l a b s n c):bj 450008 l/\l.length<=8/\(a.natAbs:Int)<pw 50000/\(b.natAbs:Int)<pw 450008/\0<=s/\0<=n:=by
 unfold ll at h;exact⟨h.1,h.2.1,h.2.2.1,h.2.2.2.1,h.2.2.2.2.1,h.2.2.2.2.2.1⟩
theorem QM{x y:Int}(b:x≠0)(h:fit x):fit ((Int.gcd x y:Nat):Int):=
 rl h (by rw[Y5];exact Nat.gcd_le_left _ (by omega))
theorem k309:aH prog V1:=av k307 hm func309 (by kernel_rfl) (by kernel_rfl) Hs.ok (by kernel_rfl) (λa=>a309 a.1 a.2) λa B=>by
 have h:S5 a.1 a.2:=by
  rw[<-OW];simp only[aA];obtain⟨p,g⟩:=a
  try dsimp only at B
  obtain⟨R,X,q3,q4,Z⟩:=yC B;have D:0<(ag g).length:=Xa.2 Z;have ac:(ag g).length<=8:=by rw[fw,bn];have:=cX g;omega
  have E:(ag p).length<=8:=by rw[fw,bn];have:=cX p;omega
  have u:=bP X;simp[-List.getD_eq_getElem?_getD,Ww];rw[LK D (by omega),aO (n:=((ag g).length:Int)-1) (by omega) (by omega)];have o:=ic Z;refine⟨bu R (by omega),bu X (by omega),by omega,by omega,?_,λl j=>⟨λk=>?_,λk=>?_⟩⟩
  . unfold FM;refine⟨an (bP R) (by omega),E,?_⟩;unfold dh;rfl
  . obtain⟨C,F,G⟩:=so j;have out:=GR B j k;rw[LK (p:=l) (by omega) (by omega),aO (n:=(l.length:Int)-1) (by omega) (by omega)];have hc:((bw (ag g)).natAbs:Int)<pw 50000:=by rw[aN];exact bU u _
    have ht:((bw l).natAbs:Int)<pw 450008:=by
     rw[aN];have:=bU C (l.length-1);have:=gT (show 50000+50001*(8-l.length)<=450008 by omega);omega
    have ad:=Pq (bw (ag g)) (bw l);have al:=Nx (bw (ag g)) (bw l);have w:fit (bw (ag g)):=fX hc (by omega);have H:fit (bw l):=fX ht (by omega);have fd:fit ((Int.gcd (bw (ag g)) (bw l):Nat):Int):=QM o w;have fb:fit ((bw l).tdiv (Int.gcd (bw (ag g)) (bw l):Int)):=by
     refine rl H ?_;rw[Xk];exact Za _ _
    have J:aW (bw (ag g))<0-> -(bw l).tdiv (Int.gcd (bw (ag g)) (bw l):Int)=qB (bw (ag g)) (bw l):=λh=>by unfold qB;rw[JB (xd.1 h)]
    have K:0<=aW (bw (ag g))->(bw l).tdiv (Int.gcd (bw (ag g)) (bw l):Int)=qB (bw (ag g)) (bw l):=λh=>by unfold qB;rw[JA (λh2=>by have:=xd.2 h2;omega)]
    have hW:W ((l.length:Int)-(ag g).length)=((l.length-(ag g).length:Nat):Int):=by rw[aO (by omega) (by omega)];omega
    rw[hW,<-L7];refine⟨by omega,by omega,⟨w,H⟩,w,⟨rl w (by simp),fd,λh=>absurd h o⟩,⟨H,fd,λh=>absurd h o⟩,w,λL=>⟨fb,?_⟩,λL=>?_⟩
    . rw[J L];refine⟨?_,λn x c=>⟨λm=>?_,λm=>?_⟩⟩
      . unfold ll;exact⟨an C (by omega),F,by omega,by omega,by omega,by omega,by omega,by simp⟩
      . obtain⟨y,p2,z,A,p5,M⟩:=wx c;have q:=Bj c;have b:=BJ c;obtain⟨N,O,b3⟩:=BW (s:=l.length-(ag g).length) (i:=n.toNat) y u z A;rw[aO (n:=n+1) (by omega) (by omega)];refine⟨by omega,by omega,⟨by rw[b];exact bu y (by omega)|>λh=>cP h _,fX z (by omega)⟩,by omega,by omega,λr=>?_,λr=>?_⟩
        . rw[aO (n:=n-((l.length-(ag g).length:Nat):Int)) (by omega) (by omega),NP rfl];have d:=nL (v:=x.getD n.toNat 0*qA (bw (ag g)) (bw l)-qB (bw (ag g)) (bw l)*(ag g).getD (n-((l.length-(ag g).length:Nat):Int)).toNat 0) c m (by
           unfold rF;rw[JB (by omega),b];congr 3;omega)
          refine⟨by omega,by omega,by omega,by omega,⟨fX A (by omega),cP (bu u (by omega)) _⟩,⟨by rw[b];exact fX N (by omega),fX (O _) (by omega)⟩,by omega,by omega,d,by omega,jK rfl rfl⟩
        . rw[uK rfl];have d:=nL (v:=x.getD n.toNat 0*qA (bw (ag g)) (bw l)) c m (by
           unfold rF;rw[JA (by omega),b])
          exact⟨d,by omega,jK rfl rfl⟩
      . have e:=Bv c m rfl rfl rfl;subst e;exact out
    . rw[K L];refine⟨?_,λn x c=>⟨λm=>?_,λm=>?_⟩⟩
      . unfold ll;exact⟨an C (by omega),F,by omega,by omega,by omega,by omega,by omega,by simp⟩
      . obtain⟨y,p2,z,A,p5,M⟩:=wx c;have q:=Bj c;have b:=BJ c;obtain⟨N,O,b3⟩:=BW (s:=l.length-(ag g).length) (i:=n.toNat) y u z A;rw[aO (n:=n+1) (by omega) (by omega)];refine⟨by omega,by omega,⟨by rw[b];exact bu y (by omega)|>λh=>cP h _,fX z (by omega)⟩,by omega,by omega,λr=>?_,λr=>?_⟩
        . rw[aO (n:=n-((l.length-(ag g).length:Nat):Int)) (by omega) (by omega),NP rfl];have d:=nL (v:=x.getD n.toNat 0*qA (bw (ag g)) (bw l)-qB (bw (ag g)) (bw l)*(ag g).getD (n-((l.length-(ag g).length:Nat):Int)).toNat 0) c m (by
           unfold rF;rw[JB (by omega),b];congr 3;omega)
          refine⟨by omega,by omega,by omega,by omega,⟨fX A (by omega),cP (bu u (by omega)) _⟩,⟨by rw[b];exact fX N (by omega),fX (O _) (by omega)⟩,by omega,by omega,d,by omega,jK rfl rfl⟩
        . rw[uK rfl];have d:=nL (v:=x.getD n.toNat 0*qA (bw (ag g)) (bw l)) c m (by
           unfold rF;rw[JA (by omega),b])
          exact⟨d,by omega,jK rfl rfl⟩
      . have e:=Bv c m rfl rfl rfl;subst e;exact out
  . obtain⟨C,F,G⟩:=so j;rw[mS k]at G;exact nr G
 exact h
def lT:Nat->Ω->Ω->Ω
 |0,a,_=>a
 |n+1,a,b=>if 0<b.length then lT n b (dh a b)else a
def eU(p q:Ω):Ω:=iN (lT (ag q).length (ag p) (ag q))
def kk(n:Nat):Nat:=101*4^n-1
def ks:Nat->Nat
 |0=>21815|1=>3635|2=>605|3=>100|_=>11
def vR(p q:Ω):Prop:=(bj 100 p/\bj 100 q/\p.length<=3/\q.length<=3)\/(bj 11 p/\bj 11 q/\p.length<=5/\q.length<=4)
def aau(p q a b:Ω):Prop:=a.length<=5/\b.length<=4/\bj (ks b.length) a/\bj (ks b.length) b/\ae b=b/\lT b.length a b=lT (ag q).length (ag p) (ag q)
attribute [irreducible] lT eU vR aau
def c311:bB:=ow Hs.dec (λa=>vR a.1 a.2) (λa=>pS (eU a.1 a.2))
def WE:List (Nat×bB):=(311,c311)::V1
def Yp(p:Ω)(q:Ω):List kM:=[⟨.unit,.list [.fz1 5,.fz1 6,.rosL aj (.tm 5),.rosL aj (.tm 6)],λ_ (x:Unit×Unit×Ω×Ω)=>aau p q x.2.2.1 x.2.2.2,λ_ (x:Unit×Unit×Ω×Ω)=>x.2.2.2.length⟩]
def Sc(p:Ω)(q:Ω):Prop:=fQ V1 f311 (Yp p q) [pS p,pS q] (pS (eU p q))
theorem PF(p:Ω)(q:Ω):(
 let k:=λ(m:Ω)=>∀i,i<m.length->true=true/\aj.ak (aj.enc (m.getD i 0))
 let c:=λ(m:Ω)=>eR m
 let o:=λ(m:Ω)=>k m/\cr (c m)
 let g:=λ(m:Ω)=>ag (c m)
 let e:=λ(m:Ω)=>(g m).length
 let s:=λ(m:Ω)=>0+e m<=e m/\∀i,i<e m->true=true
 let f:=λ(m:Ω)=>uR (g m)
 let h:=λ(m:Ω)(A:Nat)=>(g m).getD (0+A) 0
 let t:=λ(m:Ω)=>e m=(f m).length/\∀i,i<e m->decide (h m i<0)=decide ((f m).getD i 0<0)/\((dz (h m i)).length=(dz ((f m).getD
  i 0)).length/\∀(z:Nat),z<(dz (h m i)).length->(dz (h m i)).getD z 0=(dz ((f m).getD i 0)).getD z 0/\True)/\True
 let u:=ab 13 True
 let j:=([]:List (Option (Nat×Nat)))
 let v:=λ(m:Ω)=>(sm (e m)/\sm 2/\∀i,i<e m->pW ((g m).getD i 0))/\True
 let w:=λ(m A:Ω)=>j=j/\v m/\j=j/\v A/\True
 let x:=λ(m:Ω)=>decide (↑m.length>(0:Int))
 let d:=λ(m A:Ω)=>dh (c m) (c A)
 let y:=λ(m A:Ω)(B:Nat)=>(dz ((d m A).getD B 0)).length
 let r:=λ(m:Ω)(A:Nat)=>dz ((iN (c m)).getD A 0)
 ab 2 (o p/\True/\o q/\True/\s p/\s q/\(aau p q (f p) (f q)/\ab 5 (t p/\t q/\u)/\w p q)/\∀(l b:Ω),aau p q l b->True/\(x b=
  true->ab 2 (((k l/\k b)/\ov (c l) (c b))/\ab 3 (aau p q (c b) (eR (d l b))/\(eR (d l b)).length<b.length/\ab 5 ((b.length=(c
  b).length/\∀i,i<b.length->decide (b.getD i 0<0)=decide ((c b).getD i 0<0)/\((dz (b.getD i 0)).length=(dz ((c b).getD i 0)).length
  /\∀(z:Nat),z<(dz (b.getD i 0)).length->(dz (b.getD i 0)).getD z 0=(dz ((c b).getD i 0)).getD z 0/\True)/\True)/\((d l b).length=(eR
  (d l b)).length/\∀i,i<(d l b).length->decide ((d l b).getD i 0<0)=decide ((eR (d l b)).getD i 0<0)/\(y l b i=(dz ((eR (d l b)).getD
  i 0)).length/\∀(z:Nat),z<y l b i->(dz ((d l b).getD i 0)).getD z 0=(dz ((eR (d l b)).getD i 0)).getD z 0/\True)/\True)/\u)/\w p q)))
  /\(x b=false->True/\o l/\ab 2 (((iN (c l)).length=(eU p q).length/\∀i,i<(iN (c l)).length->decide ((iN (c l)).getD i 0<0)=decide
  ((eU p q).getD i 0<0)/\((r l i).length=(dz ((eU p q).getD i 0)).length/\∀(z:Nat),z<(r l i).length->(r l i).getD z 0=(dz ((eU p q).getD
  i 0)).getD z 0/\True)/\True)/\True))))=Sc p q:=by kernel_rfl
theorem iP{p:Ω}(h:p=[]\/bw p≠0):ae p=p:=by
 rw[dq];refine Jz ?_
 by_cases b:tl p<p.length
 . rcases h with rfl|h
   . simp at b
   . exact absurd ((qQ (l:=p) (n:=p.length) (cX p) (J1 _)).2 b).2 (by rw[aN]at h;exact h)
 . omega
theorem dP(p:Ω):ae (ag p)=ag p:=iP (by
 by_cases h:ag p=[]
 . exact .inl h
 . exact .inr (ic h))
theorem me{p:Ω}(h:ae p=p)(b:0<p.length):ag p≠[]:=by
 intro e;have:=fw p;rw[e,h]at this;simp at this;omega
theorem cN(p:Ω):(ag p).length<=p.length:=by rw[fw,bn];exact cX p
theorem Ob{r g:Ω}{k m:Nat}(b:bj k r)(c:bj m g):bj (k+(m+1)) (iX r g):=by
 refine jd (by rw[tS];exact jm b) λz d=>?_
 unfold iX at d;obtain⟨i,_,rfl⟩:=Kh.1 d;have h:((qA (bw g) (bw r)).natAbs:Int)<pw m:=by
  have:=Pq (bw g) (bw r);have:=bU c (g.length-1);rw[aN g]at*;omega
 have j:((qB (bw g) (bw r)).natAbs:Int)<pw k:=by
  have:=Nx (bw g) (bw r);have:=bU b (r.length-1);rw[aN r]at*;omega
 have o:=bQ (bU b i) h;have e:pw (k+(m+1))=4294967296*(pw k*pw m):=by rw[show k+(m+1)=(k+m)+1 by omega,bD,gG]
 have p:0<pw k*pw m:=Je (bN _) (bN _);rw[e];unfold rF;split
 . have:=bQ j (bU c (i-(r.length-g.length)));omega
 . omega
theorem IX{m:Nat}{g:Ω}(d:bj m g)(e:0<g.length)(i:bw g≠0):∀{n:Nat}{k:Nat}{r:Ω},bj k r->r.length<=n->bj (k+n*(m+1)) (jT n r g)/\(jT n r g).length<g.length/\(ae r=r->ae (jT n r g)=jT n r g)
 |0,k,r,b,j=>by rw[HQ];exact⟨an b (by omega),by omega,λh=>h⟩
 |n+1,k,r,b,j=>by
  rw[pN];split
  . rename_i c;have u:=qO e c i;obtain⟨o,p,q⟩:=IX d e i (n:=n) (k:=k+(m+1)) (r:=ag (iX r g)) (bP (Ob b d)) (by omega);refine⟨an o (by rw[Nat.succ_mul];omega),p,λ_=>q (dP _)⟩
  . exact⟨an b (by omega),by omega,λh=>h⟩
theorem F3{g:Ω}(c:0<g.length)(d:bw g≠0):∀{n:Nat}{r:Ω},r.length<=n->(jT n r g).length<g.length/\(ae r=r->ae (jT n r g)=jT n r g)
 |0,r,e=>by rw[HQ];exact⟨by omega,λh=>h⟩
 |n+1,r,e=>by
  rw[pN];split
  . rename_i b;have k:=qO c b d;obtain⟨i,j⟩:=F3 c d (n:=n) (r:=ag (iX r g)) (by omega);exact⟨i,λ_=>j (dP _)⟩
  . exact⟨by omega,λh=>h⟩
theorem jf{m:Nat}{p g:Ω}(b:bj m p)(c:bj m g)(i:p.length<=3)(h:ag g≠[]):bj (m+3*(m+1)) (dh p g)/\(dh p g).length<g.length/\ae (dh p g)=dh p g:=by
 have j:=cN p;obtain⟨d,k,e⟩:=IX (bP c) (Xa.2 h) (ic h) (bP b) (J1 (ag p).length);unfold dh;refine⟨an d ?_,by have:=cN g;omega,e (dP _)⟩;have:(ag p).length*(m+1)<=3*(m+1):=Jl _ (by omega);omega
theorem remP_facts5{m:Nat}{p g:Ω}(b:bj m p)(c:bj m g)(i:p.length<=5)(h:ag g≠[]):bj (m+5*(m+1)) (dh p g)/\(dh p g).length<g.length/\ae (dh p g)=dh p g:=by
 have j:=cN p;obtain⟨d,k,e⟩:=IX (bP c) (Xa.2 h) (ic h) (bP b) (J1 (ag p).length);unfold dh;refine⟨an d ?_,by have:=cN g;omega,e (dP _)⟩;have:(ag p).length*(m+1)<=5*(m+1):=Jl _ (by omega);omega
theorem ks_le(n:Nat):11<=ks n/\ks n<=21815:=by
 unfold ks;split<;>omega
theorem ks_3{n:Nat}(h:n<=3):100<=ks n:=by
 rcases(show n=0\/n=1\/n=2\/n=3 by omega)with rfl|rfl|rfl|rfl<;>decide
theorem ks_step{n r:Nat}(h:r<n)(b:n<=4):ks n+5*(ks n+1)<=ks r/\ks n<=ks r:=by
 rcases(show n=1\/n=2\/n=3\/n=4 by omega)with rfl|rfl|rfl|rfl<;>rcases(show r=0\/r=1\/r=2\/r=3 by omega)with rfl|rfl|rfl|rfl<;>first|omega|decide
theorem mG(a b:Ω):lT 0 a b=a:=by unfold lT;rfl
theorem jb(n:Nat)(a b:Ω):lT (n+1) a b=if 0<b.length then lT n b (dh a b)else a:=by rw[lT]
theorem Ff(n:Nat)(a:Ω):lT n a []=a:=by
 cases n with
 |zero=>exact mG _ _
 |succ n=>rw[jb];rfl
theorem uY{m:Nat}:∀{n:Nat}{a b:Ω},a.length<=5->b.length<=5->ae b=b->b.length<=n->lT n a b=lT b.length a b
 |0,a,b,_,_,_,h=>by rw[show b.length=0 by omega]
 |n+1,a,b,p,i,j,h=>by
  by_cases e:0<b.length
  . obtain⟨q,k⟩:∃q,b.length=q+1:=⟨b.length-1,by omega⟩;have c:=me j e;have d:(dh a b).length<b.length/\ae (dh a b)=dh a b:=by
     obtain⟨r,o⟩:(jT (ag a).length (ag a) (ag b)).length<(ag b).length/\(ae (ag a)=ag a->ae (jT (ag a).length (ag a) (ag b))=jT (ag a).length (ag a) (ag b)):=F3 (Xa.2 c) (ic c) (J1 _);unfold dh;exact⟨by have:=cN b;omega,o (dP _)⟩
    rw[k,jb,jb,JB e,JB e,uY (m:=m) (n:=n) i (by omega) d.2 (by omega)];rw[uY (m:=m) (n:=q) i (by omega) d.2 (by omega)]
  . have:b=[]:=Kr (by omega);subst this;rw[Ff,Ff]
theorem kk_step(n:Nat):kk (n+1)=kk n+3*(kk n+1):=by
 unfold kk;have:0<4^n:=Z4 (by omega);rw[Xi];omega
theorem Em{n:Nat}(h:n<=3):100<=kk n/\kk n<=6463:=by
 match n,h with
 |0,_=>decide
 |1,_=>decide
 |2,_=>decide
 |3,_=>decide
theorem IL{a b:Nat}(h:a<=b):kk a<=kk b:=by
 unfold kk;have:4^a<=4^b:=Xv (by omega) h;omega
theorem k311:aH prog WE:=av k309 hm func311 (by kernel_rfl) (by kernel_rfl) Hs.ok (by kernel_rfl) (λa=>Yp a.1 a.2) λa j=>by
 have h:Sc a.1 a.2:=by
  rw[<-PF];simp only[aA];obtain⟨p,q⟩:=a
  try dsimp only at j
  unfold vR at j;have C:bj 100 p/\bj 100 q/\p.length<=5/\q.length<=4:=by
   rcases j with⟨d,e,k,o⟩|⟨d,e,k,o⟩
   . exact⟨d,e,by omega,by omega⟩
   . exact⟨an d (by omega),an e (by omega),k,o⟩
  obtain⟨d,e,k,o⟩:=C;simp[-List.getD_eq_getElem?_getD];have M:=cN p;have N:=cN q;refine⟨bu d (by omega),bu e (by omega),?_,λa b c=>?_⟩
  . unfold aau;have D:=(ks_le (ag q).length).1;rcases j with⟨r,u,E,F⟩|⟨r,u,E,F⟩
    . have:=ks_3 (show(ag q).length<=3 by omega);exact⟨by omega,by omega,an (bP r) (by omega),an (bP u) (by omega),dP _,rfl⟩
    . exact⟨by omega,by omega,an (bP r) (by omega),an (bP u) (by omega),dP _,rfl⟩
  . unfold aau at c;obtain⟨G,H,w,x,J,y⟩:=c;have O:=ks_le b.length;refine⟨λz=>?_,λz=>?_⟩
    . have i:=me J z;obtain⟨K,A,B⟩:=remP_facts5 w x G i;refine⟨?_,?_,A⟩
      . unfold ov;exact⟨an w (by omega),an x (by omega),by omega,by omega,i⟩
      . unfold aau;have R:=ks_step A H;refine⟨by omega,by omega,an x (by omega),an K (by omega),B,?_⟩;rw[<-y];obtain⟨n,L⟩:∃n,b.length=n+1:=⟨b.length-1,by omega⟩;rw[L,jb,JB (by omega),uY (m:=0) (n:=n) (by omega) (by omega) B (by omega)]
    . subst z;rw[Kf,mG]at y;refine⟨bu w (by omega),nr ?_⟩;unfold eU;rw[<-y]
 exact h
end Go.Proofs.Big
namespace Go.Proofs.Big
open Go Go.Sx Go.Proofs
variable [bW]
def cR:Ou (Int×Int) where
 n:=3
 enc a:=[.bool (decide (a.1<0)),Av (aF .u32) (dz a.1),.int .i64 a.2]
 dec l:=match l with|[x,y,z]=>oB (aj.dec [x,y]) λa=>oB (rI .i64 z) λb=>some (a,b)|_=>none
 qW:=(0,0)
 ak l:=match l with|[x,y,_]=>aj.ak [x,y]|_=>True
 ok l a h hg:=by
  split at h
  case h_2=>cases h
  obtain⟨a1,h1,h⟩:=gQ h;obtain⟨a2,h2,h⟩:=gQ h;cases h;have:=aj.ok _ _ h1 hg;exact⟨this.1,this.2.1,vX h2,trivial⟩
 self a:=by
  have h1:aj.dec [.bool (decide (a.1<0)),Av (aF .u32) (dz a.1)]=some a.1:=aj.self a.1;simp only[h1,oB,xk]
 kW a:=aj.kW a.1
 len _:=rfl
 Aa c x y a b h k:=by
  split at h
  case h_2=>cases h
  split at k
  case h_2=>cases k
  obtain⟨a1,h1,h⟩:=gQ h;obtain⟨a2,h2,h⟩:=gQ h;obtain⟨b1,k1,k⟩:=gQ k;obtain⟨b2,k2,k⟩:=gQ k;cases h;cases k;have e1:=aj.Aa c _ _ _ _ h1 k1;have e2:=Py (c:=c) h2 k2;simp only[af]at e1⊢;simp only[e1,e2,oB];cases c<;>rfl
@[simp] theorem codY_n:cR.n=3:=rfl
@[simp] theorem codY_dft:cR.qW=(0,0):=rfl
@[simp] theorem goodY(a:Int×Int):cR.ak (cR.enc a):=cR.kW a
end Go.Proofs.Big
namespace Go.Proofs.Big
open Go Go.Sx Go.Proofs Tryz
variable [bW]
attribute [local irreducible] lm nv tl dg dz
abbrev AB:Arg (Int×Int):=argA cR
abbrev yS(a:Int×Int):SV:=AB.enc a
def sPY:=iR.cons Pp (iR.one AB)
def sYY:=iR.cons AB (iR.one AB)
def cY:Ω->Int×Int->Int
 |[],_=>0
 |x::r,a=>cY r a*a.1+x*2^(a.2.toNat*r.length)
def bM(p:Ω)(a:Int×Int):Prop:=bj 1000 p/\p.length<=100/\(a.1.natAbs:Int)<pw 1000/\0<=a.2/\a.2<=32000
def qk(p:Ω)(a:Int×Int)(i k v:Int):Prop:= -1<=i/\i<p.length/\k=a.2*(p.length-1-i)/\v=cY (p.drop (i+1).toNat) a
def dp(a:Int×Int):Prop:=(a.1.natAbs:Int)<pw 10000/\0<=a.2/\a.2<=320000
def dd(a b:Int×Int):Int:=a.1*2^(max a.2 b.2-a.2).toNat-b.1*2^(max a.2 b.2-b.2).toNat
attribute [irreducible] cY bM qk dp dd
def c257:bB:=ow sPY.dec (λa=>bM a.1 a.2) (λa=>iS (aW (cY a.1 a.2)))
def Wj:List (Nat×bB):=(257,c257)::WE
def a257(p:Ω)(y:Int×Int):List kM:=[⟨.unit,.list [.int .i64 (.tm 6),.int .i64 (.tm 7),.cod aj 1 0],λ_ (x:Int×Int×Int)=>qk p y x.1 x.2.1 x.2.2,λ_ (x:Int×Int×Int)=>(x.1+1).toNat⟩]
def SL(p:Ω)(y:Int×Int):Prop:=fQ WE f257 (a257 p y) [pS p,yS y] (iS (aW (cY p y)))
def c256:bB:=ow sYY.dec (λa=>dp a.1/\dp a.2) (λa=>iS (aW (dd a.1 a.2)))
def Wz:List (Nat×bB):=(256,c256)::Wj
def TU(y:Int×Int)(w:Int×Int):Prop:=fQ Wj f256 [] [yS y,yS w] (iS (aW (dd y w)))
theorem Pf(p:Ω)(y:Int×Int):(
 let k:=λ(x:Ω)=>(↑x.length:Int)
 let r:=λ(x:Ω)=>x.length=x.length/\∀i,i<x.length->pW (x.getD i 0)
 let t:=ab 24 True
 let c:=λ(x:Int×Int)=>x.fst
 let o:=λ(x:Int×Int)=>(dz (c x)).length
 let w:=λ(x:Int×Int)(y:Nat)=>(aF IntKind.u32).enc ((dz (c x)).getD y 0)
 let f:=λ(x:Int×Int)=>x.snd
 let g:=([]:List ar)
 let h:=λ(x:Int×Int)=>List.map ar.shape (ar.s (SV.bool (decide (c x<0)))::ar.s (SV.bF 1 (o x) λi=>w x i)::ar.s (SV.int .i64 (f x))
  ::g)
 let u:=λ(x:Int×Int)=>sm (decide (c x<0))/\(sm (o x)/\∀i,i<o x->sm ((dz (c x)).getD i 0)/\True)/\f x=f x/\True
 let j:=List.map ar.shape (ar.s SV.ff::g++(ar.s SV.aq::g++g))
 let v:=λ(x:Int)=>decide (x>=0)
 let e:=aj
 let q:=λ(x:Ω)(y m:Int)=>zz (x.getD y.toNat 0)*2^m.toNat
 let d:=λ(x y m:Int)(s:Int×Int)(z:Ω)=>zz (zz x*zz (c s))+zz (q z y m)
 ab (3:Nat) ((qk p y (W (k p-(1:Int))) (0:Int) (0:Int)/\(r p/\ab (5:Nat) (sm (W (k p-(1:Int)))/\sm (0:Int)/\t))/\h y=h y/\u y/\j
  =j/\(false=false/\sm (0:Nat)/\True)/\True)/\∀(n b a:Int),qk p y n b a->True/\(v n=true->ab (2:Nat) (((e.ak (zc a)/\e.ak (zc (c
  y)))/\fit (zz a)/\fit (zz (c y)))/\((0:Int)<=n/\n<k p)/\ab (2:Nat) (((e.ak (zc (p.getD n.toNat (0:Int)))/\True)/\fit (zz (p.getD n.toNat (0:
  Int)))/\di b)/\ab (2:Nat) (((e.ak (zc (zz a*zz (c y)))/\e.ak (zc (q p n b)))/\fit (zz (zz a*zz (c y)))/\fit (zz (q p n b)))/\ru true
  /\ru true/\qk p y (W (n-(1:Int))) (W (b+f y)) (zz (d a n b y p))/\(W (n-(1:Int))+(1:Int)).toNat<(n+(1:Int)).toNat/\(r p/\ab (5
  :Nat) (sm (W (n-(1:Int)))/\sm (W (b+f y))/\t))/\h y=h y/\u y/\j=j/\(decide (d a n b y p<(0:Int))=decide (zz (d a n b y p)<(0:Int))
  /\((dz (d a n b y p)).length=(dz (zz (d a n b y p))).length/\∀i,i<(dz (d a n b y p)).length->(dz (d a n b y p)).getD i (0:Int)=(dz (zz
  (d a n b y p))).getD i (0:Int)/\True)/\True)/\True))))/\(v n=false->True/\(e.ak (zc a)/\fit (zz a))/\ab (2:Nat) (aW (zz a)=aW (cY p y)/\
  True))))=SL p y:=by kernel_rfl
theorem MZ(y:Int×Int)(w:Int×Int):(
 let h:=λ(x:Int×Int)=>aj.ak (zc x.fst)/\True
 let d:=λ(x:Int×Int)=>zz x.fst
 let c:=λ(x:Int×Int)=>x.snd
 let e:=λ(x y:Int×Int)=>if c x>c y then c x else c y
 let f:=λ(x y:Int×Int)=>d x*2^(W (e y x-c x)).toNat
 let g:=λ(x y:Int×Int)=>d x*2^(W (e x y-c x)).toNat
 ab 4 ((h y/\fit (d y)/\di (W (e w y-c y)))/\ab 2 ((h w/\fit (d w)/\di (W (e w y-c w)))/\ab 2 (((aj.ak (zc (f y w))/\aj.ak (zc (g w
  y)))/\fit (zz (f y w))/\fit (zz (g w y)))/\ru true/\True/\aW (zz (f y w)-zz (g w y))=aW (dd y w)/\True))))=TU y w:=by kernel_rfl
theorem nZ(y:Int×Int):cY [] y=0:=by unfold cY;rfl
theorem gU(x:Int)(r:Ω)(y:Int×Int):cY (x::r) y=cY r y*y.1+x*2^(y.2.toNat*r.length):=by rw[cY]
theorem LA{p:Ω}{i:Nat}(h:i<p.length)(y:Int×Int):cY (p.drop i) y=cY (p.drop (i+1)) y*y.1+p.getD i 0*2^(y.2.toNat*(p.length-(i+1))):=by
 rw[Qa h,gU,Xd,J0,J4 h];rfl
theorem Vf{n k:Nat}(h:n<=32*k):(2:Int)^n<=pw k/\(0:Int)<2^n:=by
 rw[fE];exact⟨by exact_mod_cast Xv (by omega) h,JZ (by omega)⟩
theorem V8{x:Int}{k m n:Nat}(b:(x.natAbs:Int)<pw k)(c:n<=32*m):((x*2^n).natAbs:Int)<pw (k+m+1):=by
 obtain⟨h,i⟩:=Vf c;have d:(((2:Int)^n).natAbs:Int)<pw m+1:=by omega
 have:=bQ b d;rw[bD,gG];have e:pw k*(pw m+1)=pw k*pw m+pw k:=by rw[Kg,Ke]
 have:pw k*1<=pw k*pw m:=Jt (by have:=bN m;omega) (by have:=bN k;omega);have:=bN k;omega
theorem Om{y:Int×Int}(b:(y.1.natAbs:Int)<pw 1000)(c:y.2<=32000):∀{p:Ω},(∀z∈p,(z.natAbs:Int)<pw 1000)->((cY p y).natAbs:Int)<pw (2002*p.length+1)
 |[],_=>by rw[nZ];simpa using bN 1
 |x::r,h=>by
  have d:=Om b c (p:=r) λz e=>h z (by simp[e])
  rw[gU];have i:=bQ d b;have j:((x*2^(y.2.toNat*r.length)).natAbs:Int)<pw (1000+1000*r.length+1):=V8 (h x (by simp)) (by
   have:y.2.toNat*r.length<=32000*r.length:=Jl _ (by omega);omega)
  rw[<-gG]at i;have k:=gT (show 2002*r.length+1+1000<=2002*r.length+2002 by omega);have m:=gT (show 1000+1000*r.length+1<=2002*r.length+2002 by omega);rw[Jc,show 2002*(r.length+1)+1=2002*r.length+2002+1 by omega,bD];have:=bN (2002*r.length+2002);omega
theorem k257:aH prog Wj:=av k311 hm func257 (by kernel_rfl) (by kernel_rfl) sPY.ok (by kernel_rfl) (λa=>a257 a.1 a.2) λa m=>by
 have h:SL a.1 a.2:=by
  rw[<-Pf];simp only[aA];obtain⟨p,y⟩:=a
  try dsimp only at m
  unfold bM at m;obtain⟨o,O,q,w,x⟩:=m;simp[-List.getD_eq_getElem?_getD];rw[aO (n:=(p.length:Int)-1) (by omega) (by omega)];have c:∀z∈p,(z.natAbs:Int)<pw 1000:=by unfold bj at o;exact o.2
  have r:=λk=>Om (y:=y) q x (p:=p.drop k) λz E=>c z (KJ E)
  refine⟨?_,λi k v b=>?_⟩
  . unfold qk;refine⟨by omega,by omega,?_,?_⟩
    . rw[show(p.length:Int)-1-(p.length-1)=0 by omega];simp
    . rw[Y6 (by omega),nZ]
  . unfold qk at b;obtain⟨R,F,e,j⟩:=b;have A:fit v:=by rw[j];exact fX (r _) (by rw[Xd];omega)
    refine⟨λB=>?_,λB=>⟨A,?_⟩⟩
    . have G:k.toNat=y.2.toNat*(p.length-(i.toNat+1)):=by
       rw[e,Int.toNat_mul w (by omega)];congr 1;omega
      have H:0<=k:=by rw[e];exact Ja w (by omega)
      have J:k<=32000*100:=by rw[e];exact Qb x (by omega) (by omega) (by omega)
      have d:=LA (p:=p) (i:=i.toNat) (by omega) y;have X:=r i.toNat;rw[<-G,show i.toNat+1=(i+1).toNat by omega,<-j]at d;have C:=bU o i.toNat;have K:((p.getD i.toNat 0*2^k.toNat).natAbs:Int)<pw (1000+100000+1):=V8 C (by omega);have u:(v.natAbs:Int)<pw (2002*100+1):=by
       have L:=r (i+1).toNat;rw[<-j,Xd]at L;have:=gT (show 2002*(p.length-(i+1).toNat)+1<=2002*100+1 by omega);omega
      have D:=bQ u q;rw[<-gG]at D;have M:((v*y.1).natAbs:Int)<pw (2002*100+1+1000+1):=by
       have N:pw (2002*100+1+1000+1)=4294967296*pw (2002*100+1+1000):=bD _;have Z:=bN (2002*100+1+1000);rw[N];exact Zh D (by omega)
      rw[aO (n:=i-1) (by omega) (by omega),aO (n:=k+y.2) (by omega) (by omega)];refine⟨⟨A,fX q (by omega)⟩,⟨B,F⟩,⟨fX C (by omega),by unfold di;omega⟩,⟨fX M (by omega),fX K (by omega)⟩,?_,by omega⟩;unfold qk;refine⟨by omega,by omega,?_,?_⟩
      . rw[e,show(p.length:Int)-1-(i-1)=(p.length-1-i)+1 by omega,Kg,Ke]
      . rw[show(i-1+1).toNat=i.toNat by omega];exact d.symm
    . rw[j,show(i+1).toNat=0 by omega];rfl
 exact h
theorem ZO:aH prog Wz:=av k257 hm func256 (by kernel_rfl) (by kernel_rfl) sYY.ok (by kernel_rfl) (λ_=>[]) λa b=>by
 have h:TU a.1 a.2:=by
  rw[<-MZ];simp only[aA];obtain⟨y,w⟩:=a
  try dsimp only at b
  unfold dp at b;obtain⟨⟨c,j,k⟩,d,m,b3⟩:=b;simp[-List.getD_eq_getElem?_getD];have em:(if y.2<w.2 then w.2 else y.2)=max y.2 w.2:=by split<;>omega
  rw[em];rw[aO (n:=max y.2 w.2-y.2) (by omega) (by omega),aO (n:=max y.2 w.2-w.2) (by omega) (by omega)];have e:((y.1*2^(max y.2 w.2-y.2).toNat).natAbs:Int)<pw (10000+10000+1):=V8 c (by omega);have i:((w.1*2^(max y.2 w.2-w.2).toNat).natAbs:Int)<pw (10000+10000+1):=V8 d (by omega);refine⟨⟨fX c (by omega),by unfold di;omega⟩,⟨fX d (by omega),by unfold di;omega⟩,⟨fX e (by omega),fX i (by omega)⟩,?_⟩;unfold dd;rfl
 exact h
def Ed:Nat->Int->Nat->Nat
 |0,_,i=>i
 |n+1,z,i=>if z.natAbs/2^i%2=0 then Ed n z (i+1)else i
def eV(z:Int)(k:Int):Int×Int:=if z=0 then(0,0)else(z/2^Ed k.toNat z 0,k-Ed k.toNat z 0)
def pL(z k:Int):Prop:=(z.natAbs:Int)<pw 30000/\0<=k/\k<=400000
def sj(z k i:Int):Prop:=0<=i/\i<=k/\z≠0/\z.natAbs%2^i.toNat=0/\Ed (k-i).toNat z i.toNat=Ed k.toNat z 0
attribute [irreducible] Ed eV pL sj
def c365:bB:=ow T0.dec (λa=>pL a.1 a.2) (λa=>yS (eV a.1 a.2))
def U0:List (Nat×bB):=(365,c365)::Wz
def YS(z:Int)(k:Int):List kM:=[⟨.unit,.int .i64 (.tm 5),λ_ (i:Int)=>sj z k i,λ_ (i:Int)=>(k-i).toNat⟩]
def TP(z:Int)(k:Int):Prop:=fQ Wz f365 (YS z k) [zS z,iS k] (yS (eV z k))
theorem LI(z:Int)(k:Int):(
 let f:=λ(x:Int)=>(↑(dz (zz x)).length:Int)
 let g:=λ(x:Int)=>f x==0
 let h:=λ(x y:Int)=>decide ((eV x y).fst<0)
 let j:=sm (0:Int)
 let o:=ab 33 True
 let w:=λ(x:Int)(y:Nat)=>(aF IntKind.u32).enc ((dz x).getD y 0)
 let c:=([]:List ar)
 let p:=λ(x:Int)=>List.map ar.shape (ar.s (SV.bool (decide (x<0)))::ar.s (SV.bF 1 (dz x).length λi=>w x i)::c)
 let q:=List.map ar.shape (ar.s SV.ff::c++(ar.s SV.aq::c++c)++(ar.s (SV.int .i64 0)::c++c))
 let r:=λ(x:Int)=>p x=p x/\pW (zz x)/\q=q/\ab 2 (j/\True)/\True
 let t:=(32:Int)≠(0:Int)
 let e:=λ(x:Int)=>W (x.tdiv 32)
 let u:=λ(x y:Int)=>bits BinOp.and IntKind.u32 ((dz (zz x)).getD (e y).toNat 0/2^min (IntKind.u64.wrap (y.tmod 32)).toNat 32) 1==0
 let d:=λ(x y:Int)=>zz (zz x)/2^y.toNat
 let v:=λ(x y m:Int)=>((aj.ak (zc (zz x))/\True)/\fit (zz (zz x))/\di y)/\ab 2 ((decide (d x y<0)=h x m/\((dz (d x y)).length=(dz (eV
  x m).fst).length/\∀i,i<(dz (d x y)).length->(dz (d x y)).getD i 0=(dz (eV x m).fst).getD i 0/\True)/\W (m-y)=(eV x m).snd/\True)/\True)
 ab 2 ((aj.ak (zc z)/\fit (zz z))/\ab 2 ((g z=true->ab 2 ((h z k=false/\(dz (eV z k).fst).length=0/\0=(eV z k).snd/\True)/\True))/\(g z
  =false->True/\(sj z k 0/\(True/\k=k/\ab 3 (j/\o))/\r z)/\∀(n:Int),sj z k n->(decide (n<k)=true->t/\(0<=e n/\e n<f z)/\t/\0<=
  IntKind.u64.wrap (n.tmod 32)/\True/\(u z n=true->True/\sj z k (W (n+1))/\(k-W (n+1)).toNat<(k-n).toNat/\(True/\k=k/\ab 3 (sm (W (n+1))
  /\o))/\r z)/\(u z n=false->ab 2 (v z n k)))/\(decide (n<k)=false->ab 3 (v z n k))))))=TP z k:=by kernel_rfl
theorem QV(a:Nat){r:Nat}(b:r<32):a%4294967296/2^r%2=a/2^r%2:=by
 have h:=Nat.testBit_mod_two_pow a 32 r;simp only[Nat.testBit_eq_decide_div_mod_eq,b,decide_true,Qh,JX]at h;rw[show(2:Nat)^32=4294967296 from rfl]at h;omega
theorem bit_mod_div(a n:Nat):a/2^(32*(n/32))%4294967296/2^(n%32)%2=a/2^n%2:=by
 rw[QV _ (Ki _ (by omega)),Nat.div_div_eq_div_mul,<-Nat.pow_add,Q5]
theorem RP{x:Int}(h:GD x)(r:Nat):GD (x/2^r):=by
 have b:(0:Int)<2^r:=JZ (by omega);exact⟨Kb h.1 (by omega),Zh (Z3 _ h.1) h.2⟩
theorem dz_bit{z:Int}{n:Nat}(h:n/32<(dz z).length):(dz z).getD (n/32) 0/2^(n%32)%2=((z.natAbs/2^n%2:Nat):Int):=by
 have b:dz z=dg (dz z).length (z.natAbs:Int):=by
  have:=PD (bI z).1;rw[iB]at this;exact this.symm
 have e:(dz z).getD (n/32) 0=((z.natAbs/2^(32*(n/32))%4294967296:Nat):Int):=by
  rw[b,tA _ h,fE,Int.natCast_emod,Int.natCast_ediv,Int.natCast_pow];rfl
 rw[e,<-bit_mod_div z.natAbs n]
 norm_cast
theorem low_len{z:Int}{n:Nat}(h:z≠0)(d:z.natAbs%2^n=0):n/32<(dz z).length:=by
 rcases Kv (n/32) (dz z).length with b|b
 . exact b
 . exfalso;have c:=(fV (bI z).1).2;rw[iB,fE]at c;have e:z.natAbs<2^(32*(dz z).length):=by exact_mod_cast c
   have i:2^(32*(dz z).length)<=2^n:=Xv (by omega) (by omega);have j:=Nat.le_of_dvd (by omega) (Nat.dvd_of_mod_eq_zero d);omega
theorem OZ{x:Int}(b:GD x):bits .and .u32 x 1=x%2:=by
 have:=sb (r:=1) b (by omega);rw[show((2:Int)^min 1 32)=2 from rfl,Aj (n:=2) (by omega) (by omega),Aj (by omega) (by omega)]at this;rw[show((2:Int)-1)=1 from rfl]at this;rw[this];rfl
theorem TT(z:Int)(i:Nat):Ed 0 z i=i:=by unfold Ed;rfl
theorem Mu(n:Nat)(z:Int)(i:Nat):Ed (n+1) z i=if z.natAbs/2^i%2=0 then Ed n z (i+1)else i:=by rw[Ed]
theorem redY_of{z k n:Int}(h:z≠0)(b:0<=n)(e:Ed k.toNat z 0=n.toNat):eV z k=(z/2^n.toNat,k-n):=by
 unfold eV;rw[JA h,e,Int.toNat_of_nonneg b]
theorem k365:aH prog U0:=av ZO hm func365 (by kernel_rfl) (by kernel_rfl) T0.ok (by kernel_rfl) (λa=>YS a.1 a.2) λa p=>by
 have h:TP a.1 a.2:=by
  rw[<-LI];simp only[aA];obtain⟨z,k⟩:=a
  try dsimp only at p
  unfold pL at p;obtain⟨B,C,K⟩:=p;have x:fit z:=fX B (by omega);simp[-List.getD_eq_getElem?_getD];refine⟨x,λr=>?_,λr=>⟨?_,λn c=>?_⟩⟩
  . have e:z=0:=oz.1 (by rw[r];rfl);subst e;have:eV 0 k=(0,0):=by unfold eV;rfl
    rw[this];exact⟨by omega,gz,rfl⟩
  . have d:z≠0:=λe=>r (Kr (oz.2 e))
    unfold sj;exact⟨by omega,C,d,by simpa using Nat.mod_one _,by simp⟩
  . unfold sj at c⊢;obtain⟨u,L,d,y,w⟩:=c;have j:=low_len d y;have D:di n:=by unfold di;omega
    have fin:Ed k.toNat z 0=n.toNat->(fit z/\di n)/\(z/2^n.toNat<0↔(eV z k).fst<0)/\((dz (z/2^n.toNat)).length=(dz (eV z k).fst).length/\∀i,i<(dz (z/2^n.toNat)).length->(dz (z/2^n.toNat)).getD i 0=(dz (eV z k).fst).getD i 0)/\W (k-n)=(eV z k).snd:=by
     intro e;rw[redY_of d u e];exact⟨⟨x,D⟩,J9,⟨rfl,λ_ _=>rfl⟩,aO (by omega) (by omega)⟩
    have E:W (n.tdiv 32)=((n.toNat/32:Nat):Int):=by
     rw[Ky u,aO (by omega) (by omega)];omega
    have F:IntKind.u64.wrap (n.tmod 32)=((n.toNat%32:Nat):Int):=by
     rw[X9 u,Su,ct (by omega) (by omega)];omega
    rw[E,F,K7,K7,Qn (by omega),OZ (RP (bH (bI z).1 _) _),dz_bit j];refine⟨λG=>⟨by omega,by omega,λH=>?_,λH=>fin ?_⟩,λG=>fin ?_⟩
    . have b:z.natAbs/2^n.toNat%2=0:=by omega
      rw[aO (n:=n+1) (by omega) (by omega)];refine⟨⟨by omega,by omega,d,?_,?_⟩,by omega⟩
      . rw[show(n+1).toNat=n.toNat+1 by omega,Xi];obtain⟨q,A⟩:=Nat.dvd_of_mod_eq_zero y;have o:0<2^n.toNat:=Z4 (by omega);rw[A,Nat.mul_div_cancel_left _ o]at b;rw[A];obtain⟨t,J⟩:=Nat.dvd_of_mod_eq_zero b;rw[J,<-Nat.mul_assoc];exact Nat.mul_mod_right _ _
      . rw[<-w];obtain⟨m,hm⟩:∃m,(k-n).toNat=m+1:=⟨(k-n).toNat-1,by omega⟩;rw[hm,Mu,JB b,show(k-(n+1)).toNat=m by omega,show(n+1).toNat=n.toNat+1 by omega]
    . have b: ¬z.natAbs/2^n.toNat%2=0:=by omega
      rw[<-w];obtain⟨m,hm⟩:∃m,(k-n).toNat=m+1:=⟨(k-n).toNat-1,by omega⟩;rw[hm,Mu,JA b]
    . rw[<-w,show(k-n).toNat=0 by omega,TT]
 exact h
def dj(a b:Int×Int):Int×Int:=eV (a.1*2^(max a.2 b.2-a.2).toNat+b.1*2^(max a.2 b.2-b.2).toNat) (max a.2 b.2+1)
attribute [irreducible] dj
def c315:bB:=ow sYY.dec (λa=>dp a.1/\dp a.2) (λa=>yS (dj a.1 a.2))
def U7:List (Nat×bB):=(315,c315)::U0
def So(y:Int×Int)(w:Int×Int):Prop:=fQ U0 f315 [] [yS y,yS w] (yS (dj y w))
theorem ND(y:Int×Int)(w:Int×Int):(
 let f:=aj
 let k:=λ(x:Int×Int)=>f.ak (zc x.fst)/\True
 let g:=λ(x:Int×Int)=>zz x.fst
 let c:=λ(x:Int×Int)=>x.snd
 let d:=λ(x y:Int×Int)=>if c x>c y then c x else c y
 let h:=λ(x y:Int×Int)=>g x*2^(W (d y x-c x)).toNat
 let j:=λ(x y:Int×Int)=>g x*2^(W (d x y-c x)).toNat
 let o:=λ(x y:Int×Int)=>zz (zz (h x y)+zz (j y x))
 let e:=λ(x y:Int×Int)=>eV (o x y) (W (d y x+1))
 ab 4 ((k y/\fit (g y)/\di (W (d w y-c y)))/\ab 2 ((k w/\fit (g w)/\di (W (d w y-c w)))/\ab 2 (((f.ak (zc (h y w))/\f.ak (zc (j w y)))/\
  fit (zz (h y w))/\fit (zz (j w y)))/\ab 2 (((f.ak (zc (zz (h y w)+zz (j w y)))/\True)/\pL (o y w) (W (d w y+1)))/\ru true/\True/\(decide ((e y
  w).fst<0)=decide ((dj y w).fst<0)/\((dz (e y w).fst).length=(dz (dj y w).fst).length/\∀i,i<(dz (e y w).fst).length->(dz (e y w).fst).getD
  i 0=(dz (dj y w).fst).getD i 0/\True)/\(e y w).snd=(dj y w).snd/\True)/\True)))))=So y w:=by kernel_rfl
theorem k315:aH prog U7:=av k365 hm func315 (by kernel_rfl) (by kernel_rfl) sYY.ok (by kernel_rfl) (λ_=>[]) λa b=>by
 have h:So a.1 a.2:=by
  rw[<-ND];simp only[aA];obtain⟨y,w⟩:=a
  try dsimp only at b
  unfold dp at b;obtain⟨⟨c,j,k⟩,d,m,b3⟩:=b;simp[-List.getD_eq_getElem?_getD];have em:(if y.2<w.2 then w.2 else y.2)=max y.2 w.2:=by split<;>omega
  rw[em];rw[aO (n:=max y.2 w.2-y.2) (by omega) (by omega),aO (n:=max y.2 w.2-w.2) (by omega) (by omega),aO (n:=max y.2 w.2+1) (by omega) (by omega)];have e:((y.1*2^(max y.2 w.2-y.2).toNat).natAbs:Int)<pw (10000+10000+1):=V8 c (by omega);have i:((w.1*2^(max y.2 w.2-w.2).toNat).natAbs:Int)<pw (10000+10000+1):=V8 d (by omega);have o:pw (10000+10000+1+1)=4294967296*pw (10000+10000+1):=bD _;have p:=bN (10000+10000+1)
  have q:=gT (show 10000+10000+1+1<=30000 by omega);have hm:dj y w=eV (y.1*2^(max y.2 w.2-y.2).toNat+w.1*2^(max y.2 w.2-w.2).toNat) (max y.2 w.2+1):=by unfold dj;rfl
  rw[hm];refine⟨⟨fX c (by omega),by unfold di;omega⟩,⟨fX d (by omega),by unfold di;omega⟩,⟨fX e (by omega),fX i (by omega)⟩,?_,J9,⟨rfl,λ_ _=>rfl⟩,rfl⟩;unfold pL;generalize pw (10000+10000+1+1)=Q at*
  generalize pw (10000+10000+1)=P at*
  generalize pw 30000=R at*
  refine⟨?_,by omega,by omega⟩;have:=Int.natAbs_add_le (y.1*2^(max y.2 w.2-y.2).toNat) (w.1*2^(max y.2 w.2-w.2).toNat);omega
 exact h
end Go.Proofs.Big
