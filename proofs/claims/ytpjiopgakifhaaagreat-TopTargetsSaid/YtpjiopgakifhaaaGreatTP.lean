import Derived.Test.YtpjiopgakifhaaaGreatTJ
import Derived.Test.YtpjiopgakifhaaaGreatTO
set_option linter.unusedSectionVars false
set_option linter.unusedSimpArgs false
set_option linter.unusedVariables false
set_option maxRecDepth 100000
namespace Go.Proofs.Big
open Go Go.Sx Go.Proofs
variable [bW]
attribute [local irreducible] lm nv tl dg dz
def eR (p:List Int):List Int:=ah aj p.length fun i=>aj.enc (p.getD i (0:Int))
def uR (p:List Int):List Int:=ah aj p.length fun i=>aj.enc (p.getD ((0:Nat)+i) (0:Int))
def DH (p:List Int):List Int:=ag (eR p)
def wo (p:List Int):Int:=p.getD ((0:Nat)+(W (p.length-(1:Int))).toNat) (0:Int)
def pW (x:Int):Prop:=sm (decide (x<(0:Int)))/\(sm ((dz x).length)/\ ∀(i:Nat),i<(dz x).length->sm ((dz x).getD i (0:Int))/\True)/\True
def aB (p:List Int):Int:=p.getD (p.length-1) 0
def qA (l t:Int):Int:=(l.natAbs:Int).tdiv (Int.gcd l t)
def qB (l t:Int):Int:=if l<0 then-(t.tdiv (Int.gcd l t))else t.tdiv (Int.gcd l t)
def rF (r g:List Int) (a b:Int) (s:Nat) (i:Nat):Int:=if s<=i then r.getD i 0*a-b*g.getD (i-s) 0 else r.getD i 0*a
def iX (r g:List Int):List Int:=(List.range r.length).map (rF r g (qA (aB g) (aB r)) (qB (aB g) (aB r)) (r.length-g.length))
def jT :Nat->List Int->List Int->List Int
 |0,r,_=>r
 |n+1,r,g=>if g.length<=r.length then jT n (ag (iX r g)) g else r
def dh (p g:List Int):List Int:=jT (ag p).length (ag p) (ag g)
def ov (p g:List Int):Prop:=bj 50000 p/\bj 50000 g/\p.length<=8/\g.length<=8/\ag g≠[]
def ld (p g r:List Int):Prop:=bj (50000+50001*(8-r.length)) r/\r.length<=8/\jT r.length r (ag g)=dh p g
def ch (g l0:List Int) (a b s i:Int) (l:List Int):Prop:=bj 450008 l0/\l0.length<=8/\(a.natAbs:Int)<pw 50000/\(b.natAbs:Int)<pw 450008/\0<=s/\0<=i/\i<=l0.length/\l=(List.range i.toNat).map (rF l0 (ag g) a b s.toNat)++l0.drop i.toNat
attribute [irreducible] aB qA qB rF iX jT dh ov ld ch
def c309 :bB:=fl Hs.dec (fun a=>ov a.1 a.2) (fun a=>pS (dh a.1 a.2))
def V1 :List (Nat×bB):=(309,c309)::WR
def a309 (p:List Int) (g:List Int):List kM:=[⟨.unit, .list [.ah aj 0 204 [.tm 5], .fogT [16], .sw1 0 9],fun _ (x:List Int×Unit×Unit)=>ld p g x.1,fun _ (x:List Int×Unit×Unit)=>x.1.length⟩,⟨.list [.ah aj 0 204 [.tm 5], .N2 aj 5 0, .N2 aj 7 0, .int .i64 (.tm 13)], .list [.int .i64 (.tm 64), .ah aj 0 204 [.tm 5]],fun(y:List Int×Int×Int×Int) (x:Int×List Int)=>ch g y.1 y.2.1 y.2.2.1 y.2.2.2 x.1 x.2,fun(y:List Int×Int×Int×Int) (x:Int×List Int)=>(y.1.length-x.1).toNat⟩]
def S5 (p:List Int) (g:List Int):Prop:=fQ WR Tryz.f309 (a309 p g) [pS p,pS g] (pS (dh p g))
theorem OW (p:List Int) (g:List Int):(
 let d:=fun(m:List Int)=>m.length
 let x:=fun(m:Nat) (s:List Int)=>m<d s
 let d0:=true=true
 let c:=aj
 let f:=fun(m:List Int)=>eR m
 let e4:=fun(m:List Int)=>(∀(i:Nat),x i m->d0/\c.ak (c.enc (m.getD i 0)))/\cr (f m)
 let y:=fun(m:List Int)=>(DH m).length
 let M:=fun(m:List Int)=>(↑(y m):Int)
 let c0:=fun(m:List Int)=>W (M m-1)
 let C:=sm 0
 let F:=fun(m:List Int)=>C/\sm (y m)
 let e5:=fun(m:List Int)=>y m=(eR (DH m)).length
 let e6:=ab 93 True
 let e7:=([]:List (Option (Nat×Nat)))
 let t:=e7=e7
 let d1:=c.n
 let N:=2=d1
 let O:=fun(m:List Int) (s:Nat)=>(DH m).getD s 0
 let e8:=fun(m:List Int) (s:Nat)=>dz ((eR (DH m)).getD s 0)
 let d2:=fun(m:List Int)=>(sm (y m)/\sm 2/\ ∀(i:Nat),i<y m->pW (O m i))/\True
 let e9:=List.map ar.shape ([ar.s SV.ff]++([ar.s SV.aq]++[]))
 let k:=e9=e9
 let d3:=fun(m:List Int)=>sm (decide ((DH m).getD (0+(c0 m).toNat) 0<0))/\(sm (dz (wo (DH m))).length/\ ∀(i:Nat),i<(dz (wo (DH m))).length
  ->sm ((dz (wo (DH m))).getD i 0)/\True)/\True
 let f0:=fun(m:List Int)=>t/\d2 m/\k/\d3 m/\True
 let q:=fun(m:List Int)=>(↑(d m):Int)
 let f1:=fun(m s:List Int)=>decide (q m>=M s)
 let c1:=fun(m:List Int)=>W (q m-1)
 let d4:=fun(m:List Int)=>c.ak (zc (wo (DH m)))
 let G:=fun(m:List Int)=>zz (wo (DH m))
 let P:=fun(m:List Int)=>(↑(G m).natAbs:Int)
 let Q:=fun(m s:List Int)=>(↑((G m).gcd (zz (wo s))):Int)
 let D:=fun(m s:List Int)=>zz (Q m s)
 let f2:=fun(m s:List Int)=>fit (D m s)/\D m s≠0
 let R:=ru true
 let f3:=fun(m:List Int)=>decide (aW (G m)<0)
 let c2:=fun(m s:List Int)=>(zz (wo m)).tdiv (D s m)
 let w:=fun(m s:List Int)=>zz (c2 m s)
 let c3:=fun(m s:List Int)=>(zz (P m)).tdiv (D m s)
 let h:=fun(m s:List Int)=>zz (c3 m s)
 let z:=fun(m s:List Int)=>zz (-zz ((zz (wo m)).tdiv (zz ↑((zz (wo (DH s))).gcd (zz (wo m))))))
 let e:=fun(m s:List Int)=>W (q m-M s)
 let f4:=ab 34 True
 let f5:=fun(m s:List Int)=>True/\F m/\ab (3:Nat) ((C/\d s=(f s).length)/\ab (7:Nat) (sm (e s m)/\ab (49:Nat) (q s=q s/\sm (0:Int)/\f4)))
 let f6:=fun(m:List Int) (s:Nat)=>decide (m.getD s 0<0)
 let d5:=fun(m:List Int) (s:Nat)=>(dz (m.getD s 0)).length
 let f7:=fun(m:List Int)=>(d m=(f m).length/\d1=d1/\ ∀(i:Nat),x i m->f6 m i=decide ((f m).getD i 0<0)/\(d5 m i=(dz ((f m).getD i 0)).length
  /\ ∀(i_1:Nat),i_1<d5 m i->(dz (m.getD i 0)).getD i_1 0=(dz ((f m).getD i 0)).getD i_1 0/\True)/\True)/\True
 let f8:=fun(m:List Int)=>sm (decide (m.getD (0+(c1 m).toNat) 0<0))/\(sm (dz (wo m)).length/\ ∀(i:Nat),i<(dz (wo m)).length->sm ((dz (wo m)).getD
  i 0)/\True)/\True
 let f9:=fun(m s:List Int)=>k/\pW ((zz (wo m)).tmod (D s m))/\True
 let d6:=fun(m s:List Int)=>t/\d2 m/\k/\d3 m/\k/\f8 s/\k/\pW (Q m s)/\k/\pW (c3 m s)/\k/\pW ((zz (P m)).tmod (D m s))/\k/\pW (-zz ((zz (wo
  s)).tdiv (zz ↑((zz (wo (DH m))).gcd (zz (wo s))))))/\f9 s m
 let A:=fun(m:Int) (s:List Int)=>0<=m/\m<q s
 let T:=fun(m:Int)=>0+m.toNat
 let B:=fun(m:Int) (s:List Int)=>T m<d s
 let o:=fun(m:List Int) (s:Int)=>m.getD (T s) 0
 let g0:=fun(m s x1:List Int) (y1:Int)=>(c.ak (zc (o m y1))/\c.ak (zc (c3 s x1)))/\fit (zz (o m y1))/\fit (h s x1)
 let g1:=fun(m:Int) (s x1:List Int)=>0<=W (m-e s x1)/\W (m-e s x1)<M x1
 let g2:=fun(m:Int) (s x1:List Int)=>0+(W (m-e s x1)).toNat<y x1
 let u:=fun(m s:List Int) (x1:Int)=>(DH m).getD (0+(W (x1-e s m)).toNat) 0
 let c4:=fun(m:Int)=>decide (T m=T m)
 let g3:=fun(m:Int) (s x1 y1:List Int)=>if c4 m=true then decide (zz (o s m)*h x1 y1<0)else decide (o s m<0)
 let g4:=fun(m:Int) (s x1 y1:List Int)=>if c4 m=true then(dz (zz (o s m)*h x1 y1)).length else(dz (o s m)).length
 let v:=aF IntKind.u32
 let g5:=fun(m:Int) (s x1 y1:List Int) (u1:Nat)=>if c4 m=true then v.enc ((dz (zz (o s m)*h x1 y1)).getD u1 0)else v.enc ((dz (o s m)).getD u1 0)
 let g6:=fun(m:Int) (s x1 y1:List Int)=>c.ak [SV.bool (g3 m s x1 y1),SV.aI 1 (g4 m s x1 y1) fun i=>g5 m s x1 y1 i]
 let c5:=fun(m:Int) (s x1 y1:List Int)=>zv (g3 m s x1 y1) (ah v (g4 m s x1 y1) (g5 m s x1 y1))
 let H:=fun(m:Int)=>W (m+1)
 let r:=fun(m:Nat) (s:Int)=>decide (m=T s)
 let g7:=fun(m s x1:List Int) (y1:Int)=>cE (c.enc (o m y1)) 0 (zc (zz (o m y1)*h s x1))
 let g8:=fun(m:Int) (s x1 y1:List Int)=>af (c4 m) (g7 s x1 y1 m) (c.enc (o s m))
 let c6:=fun(m:Int) (s x1 y1:List Int)=>c5 m s x1 y1-zz (z y1 x1*zz (u x1 y1 m))
 let d7:=fun(m:Nat) (s:Int) (x1 y1 u1:List Int)=>af (r m s) (g7 x1 y1 u1 s) (c.enc (x1.getD m 0))
 let J:=fun(m s x1:List Int) (y1:Int)=>ah c (d m) fun i'=>af (r i' y1) (cE (g8 y1 m s x1) 0 (zc (c6 y1 m s x1))) (d7 i' y1 m s x1)
 let g9:=fun(m:List Int)=>(↑(f m).length:Int)
 let c7:=fun(m:List Int) (s:Int)=>(g9 m-H s).toNat<(g9 m-s).toNat
 let d8:=fun(m s:List Int) (x1:Int)=>ab 7 (sm (e m s)/\ab 49 (q m=q m/\sm (H x1)/\f4))
 let d9:=fun(m:Nat) (s:Int) (x1 y1 u1:List Int)=>if r m s=true then decide (zz (o x1 s)*h y1 u1<0)else f6 x1 m
 let c8:=fun(m:Nat) (s:Int) (x1 y1 u1:List Int)=>if r m s=true then(dz (zz (o x1 s)*h y1 u1)).length else d5 x1 m
 let h0:=fun(m:Nat) (s:Int) (x1 y1 u1:List Int)=>if r m s=true then(dz (c6 s x1 y1 u1)).length else c8 m s x1 y1 u1
 let e0:=fun(m s:Nat) (x1:Int) (y1 u1 v1:List Int)=>if r m x1=true then v.enc ((dz (zz (o y1 x1)*h u1 v1)).getD s 0)else v.enc ((dz (y1.getD m 0)).getD
  s 0)
 let E:=fun(m s x1:List Int) (y1:Int)=>ah c (d m) fun i'=>d7 i' y1 m s x1
 let h1:=fun(m s x1:List Int) (y1:Int)=>True/\F m/\ab 3 ((C/\d s=(E s m x1 y1).length)/\d8 x1 m y1)
 let h2:=fun(m s x1:List Int) (y1:Int)=>(d m=(E m s x1 y1).length/\N/\ ∀(i:Nat),x i m->d9 i y1 m s x1=decide ((E m s x1 y1).getD i 0<0)/\(c8
  i y1 m s x1=(dz ((E m s x1 y1).getD i 0)).length/\ ∀(i_1:Nat),i_1<c8 i y1 m s x1->bK (e0 i i_1 y1 m s x1) (v.enc ((dz ((E m s x1 y1).getD i 0)).getD i_1
  0)))/\True)/\True
 let h3:=fun(m:List Int)=>0+d m<=d m/\ ∀(i:Nat),x i m->d0
 let e1:=fun(m:List Int)=>(ag (uR m)).length
 let h8:=fun(m:List Int) (s:Nat)=>List.map (rE 0 9 iK) (c.enc ((ag (uR m)).getD s 0))
 let K:=fun(m:List Int)=>ah c (e1 m) fun i=>h8 m i
 let h4:=fun(m:List Int)=>e1 m=(K m).length
 let e2:=fun(m:List Int) (s:Nat)=>dz ((ag (uR m)).getD s 0)
 let h5:=fun(m:Int) (s x1 y1 u1:List Int)=>decide (m<q s)=false->h3 x1/\((∀(i:Nat),x i x1->d0/\c.ak ((fun(j:Nat)=>aj.enc (x1.getD j
  0)) (0+i)))/\cr (uR x1))/\True/\ld y1 u1 (K x1)/\(K x1).length<d s/\(True/\F u1/\ab 3 ((C/\h4 x1)/\e6))/\t/\((h4 x1/\N/\ ∀(i:Nat),i
  <e1 x1->decide ((ag (uR x1)).getD i 0<0)=decide ((K x1).getD i 0<0)/\((e2 x1 i).length=(dz ((K x1).getD i 0)).length/\ ∀(i_1:Nat),i_1<(e2 x1
  i).length->(e2 x1 i).getD i_1 0=(dz ((K x1).getD i 0)).getD i_1 0/\True)/\True)/\True)/\f0 u1
 let e3:=fun(m s:List Int)=>t/\d2 m/\k/\d3 m/\k/\f8 s/\k/\pW (Q m s)/\k/\pW (c3 m s)/\k/\pW ((zz (P m)).tmod (D m s))/\k/\pW (c2 s m)/\f9
  s m
 let c9:=fun(m:Int) (s x1 y1:List Int)=>c5 m s x1 y1-zz (w y1 x1*zz (u x1 y1 m))
 let L:=fun(m s x1:List Int) (y1:Int)=>ah c (d m) fun i'=>af (r i' y1) (cE (g8 y1 m s x1) 0 (zc (c9 y1 m s x1))) (d7 i' y1 m s x1)
 let h6:=fun(m:Nat) (s:Int) (x1 y1 u1:List Int)=>if r m s=true then(dz (c9 s x1 y1 u1)).length else c8 m s x1 y1 u1
 let h7:=fun(m:List Int) (s:Nat)=>(dz (m.getD (0+s) 0)).length
 ab 2 (e4 p/\True/\e4 g/\True/\(0<=c0 g/\c0 g<M g)/\0+(c0 g).toNat<y g/\True/\(ld p g (eR (DH p))/\(True/\F g/\ab 3 ((C/\e5 p)/\e6))/\
  t/\((e5 p/\N/\ ∀(i:Nat),i<y p->decide (O p i<0)=decide ((eR (DH p)).getD i 0<0)/\((dz (O p i)).length=(e8 p i).length/\ ∀(i_1:Nat),i_1<
  (dz (O p i)).length->(dz (O p i)).getD i_1 0=(e8 p i).getD i_1 0/\True)/\True)/\True)/\f0 g)/\ ∀(l:List Int),ld p g l->True/\(f1 l g=true->(0
  <=c1 l/\c1 l<q l)/\0+(c1 l).toNat<d l/\ab 3 (((d4 g/\c.ak (zc (wo l)))/\fit (G g)/\fit (zz (wo l)))/\ab 2 ((d4 g/\fit (G g))/\ab 2 (((c.ak
  (zc (P g))/\c.ak (zc (Q g l)))/\fit (zz (P g))/\f2 g l)/\R/\ab 2 (((c.ak (zc (wo l))/\c.ak (zc (Q g l)))/\fit (zz (wo l))/\f2 g l)/\ab 2 ((d4
  g/\fit (G g))/\True/\(f3 g=true->True/\(c.ak (zc (c2 l g))/\fit (w l g))/\ab 3 ((ch g (f l) (h g l) (z l g) (e l g) 0 (f l)/\f5 g l/\t/\f7 l
  /\d6 g l)/\ ∀(n:Int) (l_1:List Int),ch g (f l) (h g l) (z l g) (e l g) n l_1->True/\(decide (n<q l)=true->True/\A n l_1/\B n l_1/\ab 2 (g0
  l_1 g l n/\A n l_1/\B n l_1/\R/\True/\(decide (n>=e l g)=true->A n l_1/\B n l_1/\g1 n l g/\g2 n l g/\ab 2 (((c.ak (zc (-zz ((zz (wo l)).tdiv (zz
  ↑((zz (wo (DH g))).gcd (zz (wo l)))))))/\c.ak (zc (u g l n)))/\fit (z l g)/\fit (zz (u g l n)))/\ab 2 (((g6 n l_1 g l/\c.ak (zc (z l g*zz (u g l n))))
  /\fit (c5 n l_1 g l)/\fit (zz (z l g*zz (u g l n))))/\A n l_1/\B n l_1/\R/\True/\ch g (f l) (h g l) (z l g) (e l g) (H n) (J l_1 g l n)/\c7 l n/\(True
  /\F g/\ab 3 ((C/\d l_1=(J l_1 g l n).length)/\d8 l g n))/\t/\((d l_1=(J l_1 g l n).length/\N/\ ∀(i:Nat),x i l_1->(if r i n=true then decide (c6
  n l_1 g l<0)else d9 i n l_1 g l)=decide ((J l_1 g l n).getD i 0<0)/\(h0 i n l_1 g l=(dz ((J l_1 g l n).getD i 0)).length/\ ∀(i_1:Nat),i_1<h0 i n
  l_1 g l->bK (if r i n=true then v.enc ((dz (c6 n l_1 g l)).getD i_1 0)else e0 i i_1 n l_1 g l) (v.enc ((dz ((J l_1 g l n).getD i 0)).getD i_1 0)))/\True)
  /\True)/\d6 g l)))/\(decide (n>=e l g)=false->True/\ch g (f l) (h g l) (z l g) (e l g) (H n) (E l_1 g l n)/\c7 l n/\h1 g l_1 l n/\t/\h2 l_1 g l n
  /\d6 g l)))/\h5 n l l_1 p g))/\(f3 g=false->ab 2 ((ch g (f l) (h g l) (w l g) (e l g) 0 (f l)/\f5 g l/\t/\f7 l/\e3 g l)/\ ∀(n:Int) (l_1:List
  Int),ch g (f l) (h g l) (w l g) (e l g) n l_1->True/\(decide (n<q l)=true->True/\A n l_1/\B n l_1/\ab 2 (g0 l_1 g l n/\A n l_1/\B n l_1/\R/\
  True/\(decide (n>=e l g)=true->A n l_1/\B n l_1/\g1 n l g/\g2 n l g/\ab 2 (((c.ak (zc (c2 l g))/\c.ak (zc (u g l n)))/\fit (w l g)/\fit (zz (u g
  l n)))/\ab 2 (((g6 n l_1 g l/\c.ak (zc (w l g*zz (u g l n))))/\fit (c5 n l_1 g l)/\fit (zz (w l g*zz (u g l n))))/\A n l_1/\B n l_1/\R/\True/\ch
  g (f l) (h g l) (w l g) (e l g) (H n) (L l_1 g l n)/\c7 l n/\(True/\F g/\ab 3 ((C/\d l_1=(L l_1 g l n).length)/\d8 l g n))/\t/\((d l_1=(L l_1 g l n).length
  /\N/\ ∀(i:Nat),x i l_1->(if r i n=true then decide (c9 n l_1 g l<0)else d9 i n l_1 g l)=decide ((L l_1 g l n).getD i 0<0)/\(h6 i n l_1 g l=(dz ((L
  l_1 g l n).getD i 0)).length/\ ∀(i_1:Nat),i_1<h6 i n l_1 g l->bK (if r i n=true then v.enc ((dz (c9 n l_1 g l)).getD i_1 0)else e0 i i_1 n l_1 g l) (v.enc
  ((dz ((L l_1 g l n).getD i 0)).getD i_1 0)))/\True)/\True)/\e3 g l)))/\(decide (n>=e l g)=false->True/\ch g (f l) (h g l) (w l g) (e l g) (H n) (E
  l_1 g l n)/\c7 l n/\h1 g l_1 l n/\t/\h2 l_1 g l n/\e3 g l)))/\h5 n l l_1 p g))))))))/\(f1 l g=false->True/\h3 l/\(d l=(dh p g).length/\ ∀(i:Nat),
  x i l->decide (l.getD (0+i) 0<0)=decide ((dh p g).getD i 0<0)/\(h7 l i=(dz ((dh p g).getD i 0)).length/\ ∀(i_1:Nat),i_1<h7 l i->(dz (l.getD
  (0+i) 0)).getD i_1 0=(dz ((dh p g).getD i 0)).getD i_1 0/\True)/\True)/\True)))=S5 p g:=by kernel_rfl
@[simp] theorem WA (p:List Int):eR p=p:=rK p
@[simp] theorem rwZ0_eq (p:List Int):uR p=p:=by unfold uR;simp only [Jg];exact rK p
@[simp] theorem smZ_eq (x:Int):pW x:=⟨rfl,⟨rfl,fun _ _=>⟨rfl,trivial⟩⟩,trivial⟩
@[simp] theorem ren_enc (a b:Nat) (z:Int):List.map (rE a b iK) (aj.enc z)=aj.enc z:=by rw [uh];rfl
theorem Ww (p:List Int):DH p=ag p:=by unfold DH;rw [WA]
theorem bP {k:Nat} {p:List Int} (h:bj k p):bj k (ag p):=by
 have ht:=fZ h;unfold ag;split
 . unfold bj at*
   refine⟨by simpa using ht.1,fun z hz=> ?_⟩;obtain⟨x,hx,rfl⟩:=Kh.1 hz;have:=ht.2 x hx;rw [Xk];have:x.natAbs.div (iD (ae p)).natAbs<=x.natAbs:=Za x.natAbs (iD (ae p)).natAbs;omega
 . exact ht
theorem En {p:List Int} {z:Int} (h:z∈p):lu p∣z.natAbs:=by
 induction p with
 |nil=>simp at h
 |cons x r ih=>
  rw [ry];rcases Kd.1 h with rfl|h
  . exact Nat.gcd_dvd_right _ _
  . exact Nat.dvd_trans (Nat.gcd_dvd_left _ _) (ih h)
theorem aN (p:List Int):aB p=p.getD (p.length-1) 0:=by unfold aB;rfl
theorem LK {p:List Int} (h:0<p.length) (h2:p.length<=1000):wo p=aB p:=by
 unfold wo;rw [aN,aG (by omega) (by omega)]
 congr 1;omega
theorem lQ {p:List Int} (h:0<(ae p).length):aB (ae p)≠0:=by
 rw [aN,ck,bn];rw [bn]at h;intro e;have:=(qQ (l:=p) (n:=tl p) (J1 _) (cX p)).1 ⟨h,e⟩;omega
theorem ic {p:List Int} (h:ag p≠[]):aB (ag p)≠0:=by
 have hl:0<(ae p).length:=by rw [<-fw];exact Xa.2 h
 have h1:=lQ hl;have hm:aB (ae p)∈ae p:=by
  rw [aN,J0,J4 (by omega)];exact Ku _
 rw [aN,fw];rw [aN]at h1 hm;unfold ag;split
 . rename_i hc;rw [J0,J5,J4 (by omega)];rw [J0,J4 (by omega)]at h1 hm;simp only [K4,K5]at h1 hm⊢;generalize (ae p)[(ae p).length-1]=z at*
   rw [mT]at hc⊢;obtain⟨m,hm2⟩:=En hm;intro e;have e2:(z.tdiv (lu (ae p):Int)).natAbs=0:=by rw [e];rfl
   rw [Xk,Y5,hm2]at e2
   change lu (ae p)*m/lu (ae p)=0 at e2
   rw [Nat.mul_div_cancel_left _ (by omega)]at e2;rw [e2]at hm2;omega
 . exact h1
theorem L7 (l t:Int):qA l t=(l.natAbs:Int)/(Int.gcd l t:Int):=by
 unfold qA;exact Ky (by omega)
theorem Pq (l t:Int):(qA l t).natAbs<=l.natAbs:=by
 unfold qA;rw [Xk,Y5];exact Za _ _
theorem Nx (l t:Int):(qB l t).natAbs<=t.natAbs:=by
 have:=Za t.natAbs (Int.gcd l t:Int).natAbs;unfold qB;split
 . rw [Int.natAbs_neg,Xk];exact this
 . rw [Xk];exact this
theorem qAB {l t:Int} (hl:l≠0):t*qA l t-qB l t*l=0:=by
 have h1:((Int.gcd l t:Nat):Int)∣l:=Int.gcd_dvd_left ..;have h2:((Int.gcd l t:Nat):Int)∣t:=Int.gcd_dvd_right ..;have h0:((Int.gcd l t:Nat):Int)≠0:=by
  have:=Int.gcd_pos_of_ne_zero_left (b:=t) hl;omega
 rw [L7];unfold qB;generalize ((Int.gcd l t:Nat):Int)=d at*
 obtain⟨x,rfl⟩:=h1;obtain⟨y,rfl⟩:=h2;rw [Int.mul_tdiv_cancel_left _ h0];split
 . rename_i hn;rw [show(((d*x).natAbs:Nat):Int)=d*(-x) by rw [Int.mul_neg];omega,Int.mul_ediv_cancel_left _ h0];rw [Int.mul_neg,Int.neg_mul,Jk,X7 y d x,J6 y x];omega
 . rename_i hn;rw [show(((d*x).natAbs:Nat):Int)=d*x by omega,Int.mul_ediv_cancel_left _ h0,Jk,X7 y d x,J6 y x];omega
theorem tS (r g:List Int):(iX r g).length=r.length:=by unfold iX;simp
theorem AL (r g:List Int) {i:Nat} (h:i<r.length):(iX r g).getD i 0=rF r g (qA (aB g) (aB r)) (qB (aB g) (aB r)) (r.length-g.length) i:=by
 unfold iX;rw [J0,J5,Q9 h];rfl
theorem qO {r g:List Int} (hg:0<g.length) (hr:g.length<=r.length) (hl:aB g≠0):(ag (iX r g)).length<r.length:=by
 have h0:(iX r g).getD (r.length-1) 0=0:=by
  rw [AL _ _ (by omega)];unfold rF;rw [if_pos (by omega),show r.length-1-(r.length-g.length)=g.length-1 by omega,<-aN,<-aN];exact qAB hl
 rw [fw,bn];have ht:=cX (iX r g);rw [tS]at ht;have:=(qQ (l:=iX r g) (n:=r.length) ht (by rw [tS];omega)).1 ⟨by omega,h0⟩;exact this
theorem BW {r g:List Int} {a b:Int} {k s i:Nat} (hr:bj k r) (hg:bj 50000 g) (ha:(a.natAbs:Int)<pw 50000) (hb:(b.natAbs:Int)<pw k):
 ((r.getD i 0*a).natAbs:Int)<pw (k+50001)/\(∀j,((b*g.getD j 0).natAbs:Int)<pw (k+50001))/\((rF r g a b s i).natAbs:Int)<pw (k+50001):=by
 have h1:=bQ (bU hr i) ha;have h2:=fun j=>bQ hb (bU hg j)
 have e:pw (k+50001)=4294967296*(pw k*pw 50000):=by rw [show k+50001=(k+50000)+1 by omega,bD,gG]
 have hp:0<pw k*pw 50000:=Je (aE _) (aE _);rw [e];refine⟨by omega,fun j=>by have:=h2 j;omega,?_⟩;unfold rF;split
 . have:=h2 (i-s);omega
 . omega
theorem Rb {r g:List Int} {k:Nat} (hr:bj k r) (hg:bj 50000 g):bj (k+50001) (iX r g):=by
 refine jd (by rw [tS];exact jm hr) fun z hz=> ?_
 unfold iX at hz;obtain⟨i,_,rfl⟩:=Kh.1 hz;refine(BW hr hg ?_ ?_).2.2
 . have:=Pq (aB g) (aB r);have:=bU hg (g.length-1);rw [aN g]at*;omega
 . have:=Nx (aB g) (aB r);have:=bU hr (r.length-1);rw [aN r]at*;omega
theorem HQ (r g:List Int):jT 0 r g=r:=by unfold jT;rfl
theorem pN (n:Nat) (r g:List Int):jT (n+1) r g=if g.length<=r.length then jT n (ag (iX r g)) g else r:=by rw [jT]
theorem mS {n:Nat} {r g:List Int} (h:r.length<g.length):jT n r g=r:=by
 cases n with
 |zero=>exact HQ _ _
 |succ n=>rw [pN,if_neg (by omega)]
theorem ZX {n:Nat} {r g:List Int} (hg:0<g.length) (hl:aB g≠0) (h:r.length<=n):jT n r g=jT r.length r g:=by
 induction n using Nat.strongRecOn generalizing r with
 |_ n ih=>
  by_cases hr:g.length<=r.length
  . obtain⟨m,rfl⟩: ∃m,n=m+1:=⟨n-1,by omega⟩;obtain⟨q,hq⟩: ∃q,r.length=q+1:=⟨r.length-1,by omega⟩;have ht:=qO hg hr hl;rw [hq,pN,pN,if_pos hr,if_pos hr,ih m (by omega) (by omega)]
    by_cases e:q=m
    . subst e;rw [ih q (by omega) (by omega)]
    . rw [ih q (by omega) (by omega)]
  . rw [mS (by omega),mS (by omega)]
theorem Bj {g l l1:List Int} {a b s n:Int} (h:ch g l a b s n l1):l1.length=l.length:=by
 unfold ch at h;obtain⟨_,_,_,_,_,h1,h2,rfl⟩:=h;simp;omega
theorem BJ {g l l1:List Int} {a b s n:Int} (h:ch g l a b s n l1):l1.getD n.toNat 0=l.getD n.toNat 0:=by
 unfold ch at h;obtain⟨_,_,_,_,_,h1,h2,rfl⟩:=h;rw [J0,Jy (by simp)];simp [J0]
theorem nL {g l l1:List Int} {a b s n v:Int} (h:ch g l a b s n l1) (hn:n<l.length) (hv:v=rF l (ag g) a b s.toNat n.toNat):ch g l a b s (n+1) (l1.set n.toNat v):=by
 unfold ch at h⊢;obtain⟨p1,p2,p3,p4,p5,h1,h2,h3⟩:=h;refine⟨p1,p2,p3,p4,p5,by omega,by omega,?_⟩;have hn':n.toNat<l.length:=by omega
 rw [h3,Qa hn',cG (by simp),show(n+1).toNat=n.toNat+1 by omega,Q7,hv];simp
theorem Bv {g l l1:List Int} {a b s n:Int} (h:ch g l a b s n l1) (hn:(l.length:Int)<=n) (ha:a=qA (aB (ag g)) (aB l)) (hb:b=qB (aB (ag g)) (aB l)) (hs:s=(l.length-(ag g).length:Nat)):l1=iX l (ag g):=by
 unfold ch at h;obtain⟨p1,p2,p3,p4,p5,h1,h2,h3⟩:=h;rw [h3,show n.toNat=l.length by omega];subst ha;subst hb;subst hs;unfold iX;simp
theorem yC {p g:List Int} (h:ov p g):bj 50000 p/\bj 50000 g/\p.length<=8/\g.length<=8/\ag g≠[]:=by unfold ov at h;exact h
theorem so {p g r:List Int} (h:ld p g r):bj (50000+50001*(8-r.length)) r/\r.length<=8/\jT r.length r (ag g)=dh p g:=by unfold ld at h;exact h
theorem GR {p g l:List Int} (hp:ov p g) (h:ld p g l) (hlen:(ag g).length<=l.length):cr (iX l (ag g))/\ld p g (ag (iX l (ag g)))/\(ag (iX l (ag g))).length<l.length:=by
 obtain⟨q1,q2,q3,q4,q5⟩:=yC hp;obtain⟨i1,i2,i3⟩:=so h;have hg:0<(ag g).length:=Xa.2 q5;have ht:=qO hg hlen (ic q5);have hs:=Rb i1 (bP q2);refine⟨bu hs (by omega),?_,ht⟩;unfold ld;refine⟨an (bP hs) (by omega),by omega,?_⟩;rw [<-i3];obtain⟨m,hm⟩: ∃m,l.length=m+1:=⟨l.length-1,by omega⟩;rw [hm,pN,if_pos (by omega),ZX (n:=m) hg (ic q5) (by omega)]
theorem xd {z:Int}:aW z<0↔z<0:=by
 unfold aW;split
 . constructor<;>intro h<;>omega
 . split<;>constructor<;>intro h<;>omega
theorem wx {g l l1:List Int} {a b s n:Int} (h:ch g l a b s n l1):bj 450008 l/\l.length<=8/\(a.natAbs:Int)<pw 50000/\(b.natAbs:Int)<pw 450008/\0<=s/\0<=n:=by
 unfold ch at h;exact⟨h.1,h.2.1,h.2.2.1,h.2.2.2.1,h.2.2.2.2.1,h.2.2.2.2.2.1⟩
theorem QM {x y:Int} (hx:x≠0) (h:fit x):fit ((Int.gcd x y:Nat):Int):=
 rl h (by rw [Y5];exact Nat.gcd_le_left _ (by omega))
theorem k309 :aH Tryz.prog V1:=av k307 hm Tryz.func309 (by kernel_rfl) (by kernel_rfl) Hs.ok (by kernel_rfl) (fun a=>a309 a.1 a.2) fun a hp=>by
 have h:S5 a.1 a.2:=by
  rw [<-OW];simp only [aA];obtain⟨p,g⟩:=a
  try dsimp only at hp
  obtain⟨q1,q2,q3,q4,q5⟩:=yC hp;have hg0:0<(ag g).length:=Xa.2 q5;have hg8:(ag g).length<=8:=by rw [fw,bn];have:=cX g;omega
  have hp8:(ag p).length<=8:=by rw [fw,bn];have:=cX p;omega
  have hG:=bP q2;simp [-List.getD_eq_getElem?_getD,hp,Ww];rw [LK hg0 (by omega),aG (n:=((ag g).length:Int)-1) (by omega) (by omega)];have hc0:=ic q5;refine⟨bu q1 (by omega),bu q2 (by omega),by omega,by omega,?_,fun l hinv=>⟨fun hlen=> ?_,fun hlen=> ?_⟩⟩
  . unfold ld;refine⟨an (bP q1) (by omega),hp8,?_⟩;unfold dh;rfl
  . obtain⟨i1,i2,i3⟩:=so hinv;have out:=GR hp hinv hlen;rw [LK (p:=l) (by omega) (by omega),aG (n:=(l.length:Int)-1) (by omega) (by omega)];have hc:((aB (ag g)).natAbs:Int)<pw 50000:=by rw [aN];exact bU hG _
    have ht:((aB l).natAbs:Int)<pw 450008:=by
     rw [aN];have:=bU i1 (l.length-1);have:=gT (show 50000+50001*(8-l.length)<=450008 by omega);omega
    have hq1:=Pq (aB (ag g)) (aB l);have hq2:=Nx (aB (ag g)) (aB l);have fc:fit (aB (ag g)):=bz hc (by omega);have ft:fit (aB l):=bz ht (by omega);have fd:fit ((Int.gcd (aB (ag g)) (aB l):Nat):Int):=QM hc0 fc;have fb:fit ((aB l).tdiv (Int.gcd (aB (ag g)) (aB l):Int)):=by
     refine rl ft ?_;rw [Xk];exact Za _ _
    have hb1:aW (aB (ag g))<0-> -(aB l).tdiv (Int.gcd (aB (ag g)) (aB l):Int)=qB (aB (ag g)) (aB l):=fun h=>by unfold qB;rw [if_pos (xd.1 h)]
    have hb2:0<=aW (aB (ag g))->(aB l).tdiv (Int.gcd (aB (ag g)) (aB l):Int)=qB (aB (ag g)) (aB l):=fun h=>by unfold qB;rw [if_neg (fun h2=>by have:=xd.2 h2;omega)]
    have hW:W ((l.length:Int)-(ag g).length)=((l.length-(ag g).length:Nat):Int):=by rw [aG (by omega) (by omega)];omega
    rw [hW,<-L7];refine⟨by omega,by omega,⟨fc,ft⟩,fc,⟨rl fc (by simp),fd,fun h=>absurd h hc0⟩,⟨ft,fd,fun h=>absurd h hc0⟩,fc,fun hs=>⟨fb,?_⟩,fun hs=> ?_⟩
    . rw [hb1 hs];refine⟨?_,fun n l1 hin=>⟨fun hn=> ?_,fun hn=> ?_⟩⟩
      . unfold ch;exact⟨an i1 (by omega),i2,by omega,by omega,by omega,by omega,by omega,by simp⟩
      . obtain⟨p1,p2,p3,p4,p5,hn0⟩:=wx hin;have hlen1:=Bj hin;have hget:=BJ hin;obtain⟨b1,b2,b3⟩:=BW (s:=l.length-(ag g).length) (i:=n.toNat) p1 hG p3 p4;rw [aG (n:=n+1) (by omega) (by omega)];refine⟨by omega,by omega,⟨by rw [hget];exact bu p1 (by omega)|>fun h=>cP h _,bz p3 (by omega)⟩,by omega,by omega,fun hsn=> ?_,fun hsn=> ?_⟩
        . rw [aG (n:=n-((l.length-(ag g).length:Nat):Int)) (by omega) (by omega),NP rfl];have hst:=nL (v:=l1.getD n.toNat 0*qA (aB (ag g)) (aB l)-qB (aB (ag g)) (aB l)*(ag g).getD (n-((l.length-(ag g).length:Nat):Int)).toNat 0) hin hn (by
           unfold rF;rw [if_pos (by omega),hget];congr 3;omega)
          refine⟨by omega,by omega,by omega,by omega,⟨bz p4 (by omega),cP (bu hG (by omega)) _⟩,⟨by rw [hget];exact bz b1 (by omega),bz (b2 _) (by omega)⟩,by omega,by omega,hst,by omega,jK rfl rfl⟩
        . rw [uK rfl];have hst:=nL (v:=l1.getD n.toNat 0*qA (aB (ag g)) (aB l)) hin hn (by
           unfold rF;rw [if_neg (by omega),hget])
          exact⟨hst,by omega,jK rfl rfl⟩
      . have e:=Bv hin hn rfl rfl rfl;subst e;exact out
    . rw [hb2 hs];refine⟨?_,fun n l1 hin=>⟨fun hn=> ?_,fun hn=> ?_⟩⟩
      . unfold ch;exact⟨an i1 (by omega),i2,by omega,by omega,by omega,by omega,by omega,by simp⟩
      . obtain⟨p1,p2,p3,p4,p5,hn0⟩:=wx hin;have hlen1:=Bj hin;have hget:=BJ hin;obtain⟨b1,b2,b3⟩:=BW (s:=l.length-(ag g).length) (i:=n.toNat) p1 hG p3 p4;rw [aG (n:=n+1) (by omega) (by omega)];refine⟨by omega,by omega,⟨by rw [hget];exact bu p1 (by omega)|>fun h=>cP h _,bz p3 (by omega)⟩,by omega,by omega,fun hsn=> ?_,fun hsn=> ?_⟩
        . rw [aG (n:=n-((l.length-(ag g).length:Nat):Int)) (by omega) (by omega),NP rfl];have hst:=nL (v:=l1.getD n.toNat 0*qA (aB (ag g)) (aB l)-qB (aB (ag g)) (aB l)*(ag g).getD (n-((l.length-(ag g).length:Nat):Int)).toNat 0) hin hn (by
           unfold rF;rw [if_pos (by omega),hget];congr 3;omega)
          refine⟨by omega,by omega,by omega,by omega,⟨bz p4 (by omega),cP (bu hG (by omega)) _⟩,⟨by rw [hget];exact bz b1 (by omega),bz (b2 _) (by omega)⟩,by omega,by omega,hst,by omega,jK rfl rfl⟩
        . rw [uK rfl];have hst:=nL (v:=l1.getD n.toNat 0*qA (aB (ag g)) (aB l)) hin hn (by
           unfold rF;rw [if_neg (by omega),hget])
          exact⟨hst,by omega,jK rfl rfl⟩
      . have e:=Bv hin hn rfl rfl rfl;subst e;exact out
  . obtain⟨i1,i2,i3⟩:=so hinv;rw [mS hlen]at i3;exact nr i3
 exact h
def lT :Nat->List Int->List Int->List Int
 |0,a,_=>a
 |n+1,a,b=>if 0<b.length then lT n b (dh a b)else a
def eU (p q:List Int):List Int:=iN (lT (ag q).length (ag p) (ag q))
def kk (n:Nat):Nat:=101*4^n-1
def vR (p q:List Int):Prop:=bj 100 p/\bj 100 q/\p.length<=3/\q.length<=3
def pF (p q a b:List Int):Prop:=a.length<=3/\b.length<=3/\bj (kk (3-b.length)) a/\bj (kk (3-b.length)) b/\ae b=b/\lT b.length a b=lT (ag q).length (ag p) (ag q)
attribute [irreducible] lT eU vR pF
def c311 :bB:=fl Hs.dec (fun a=>vR a.1 a.2) (fun a=>pS (eU a.1 a.2))
def WE :List (Nat×bB):=(311,c311)::V1
def Yp (p:List Int) (q:List Int):List kM:=[⟨.unit, .list [.fz1 5, .fz1 6, .KD aj (.tm 5), .KD aj (.tm 6)],fun _ (x:Unit×Unit×List Int×List Int)=>pF p q x.2.2.1 x.2.2.2,fun _ (x:Unit×Unit×List Int×List Int)=>x.2.2.2.length⟩]
def Sc (p:List Int) (q:List Int):Prop:=fQ V1 Tryz.f311 (Yp p q) [pS p,pS q] (pS (eU p q))
theorem PF (p:List Int) (q:List Int):(
 let k:=fun(m:List Int)=> ∀(i:Nat),i<m.length->true=true/\aj.ak (aj.enc (m.getD i 0))
 let c:=fun(m:List Int)=>eR m
 let o:=fun(m:List Int)=>k m/\cr (c m)
 let g:=fun(m:List Int)=>ag (c m)
 let e:=fun(m:List Int)=>(g m).length
 let s:=fun(m:List Int)=>0+e m<=e m/\ ∀(i:Nat),i<e m->true=true
 let f:=fun(m:List Int)=>uR (g m)
 let h:=fun(m:List Int) (x1:Nat)=>(g m).getD (0+x1) 0
 let t:=fun(m:List Int)=>e m=(f m).length/\ ∀(i:Nat),i<e m->decide (h m i<0)=decide ((f m).getD i 0<0)/\((dz (h m i)).length=(dz ((f m).getD
  i 0)).length/\ ∀(i_1:Nat),i_1<(dz (h m i)).length->(dz (h m i)).getD i_1 0=(dz ((f m).getD i 0)).getD i_1 0/\True)/\True
 let u:=ab 13 True
 let j:=([]:List (Option (Nat×Nat)))
 let v:=fun(m:List Int)=>(sm (e m)/\sm 2/\ ∀(i:Nat),i<e m->pW ((g m).getD i 0))/\True
 let w:=fun(m x1:List Int)=>j=j/\v m/\j=j/\v x1/\True
 let x:=fun(m:List Int)=>decide (↑m.length>(0:Int))
 let d:=fun(m x1:List Int)=>dh (c m) (c x1)
 let y:=fun(m x1:List Int) (y1:Nat)=>(dz ((d m x1).getD y1 0)).length
 let r:=fun(m:List Int) (x1:Nat)=>dz ((iN (c m)).getD x1 0)
 ab 2 (o p/\True/\o q/\True/\s p/\s q/\(pF p q (f p) (f q)/\ab 5 (t p/\t q/\u)/\w p q)/\ ∀(l l_1:List Int),pF p q l l_1->True/\(x l_1=
  true->ab 2 (((k l/\k l_1)/\ov (c l) (c l_1))/\ab 3 (pF p q (c l_1) (eR (d l l_1))/\(eR (d l l_1)).length<l_1.length/\ab 5 ((l_1.length=(c
  l_1).length/\ ∀(i:Nat),i<l_1.length->decide (l_1.getD i 0<0)=decide ((c l_1).getD i 0<0)/\((dz (l_1.getD i 0)).length=(dz ((c l_1).getD i 0)).length
  /\ ∀(i_1:Nat),i_1<(dz (l_1.getD i 0)).length->(dz (l_1.getD i 0)).getD i_1 0=(dz ((c l_1).getD i 0)).getD i_1 0/\True)/\True)/\((d l l_1).length=(eR
  (d l l_1)).length/\ ∀(i:Nat),i<(d l l_1).length->decide ((d l l_1).getD i 0<0)=decide ((eR (d l l_1)).getD i 0<0)/\(y l l_1 i=(dz ((eR (d l l_1)).getD
  i 0)).length/\ ∀(i_1:Nat),i_1<y l l_1 i->(dz ((d l l_1).getD i 0)).getD i_1 0=(dz ((eR (d l l_1)).getD i 0)).getD i_1 0/\True)/\True)/\u)/\w p q)))
  /\(x l_1=false->True/\o l/\ab 2 (((iN (c l)).length=(eU p q).length/\ ∀(i:Nat),i<(iN (c l)).length->decide ((iN (c l)).getD i 0<0)=decide
  ((eU p q).getD i 0<0)/\((r l i).length=(dz ((eU p q).getD i 0)).length/\ ∀(i_1:Nat),i_1<(r l i).length->(r l i).getD i_1 0=(dz ((eU p q).getD
  i 0)).getD i_1 0/\True)/\True)/\True))))=Sc p q:=by kernel_rfl
theorem iP {p:List Int} (h:p=[]\/aB p≠0):ae p=p:=by
 rw [dq];refine Jz ?_
 by_cases hl:tl p<p.length
 . rcases h with rfl|h
   . simp at hl
   . exact absurd ((qQ (l:=p) (n:=p.length) (cX p) (J1 _)).2 hl).2 (by rw [aN]at h;exact h)
 . omega
theorem dP (p:List Int):ae (ag p)=ag p:=iP (by
 by_cases h:ag p=[]
 . exact .inl h
 . exact .inr (ic h))
theorem me {p:List Int} (h:ae p=p) (h0:0<p.length):ag p≠[]:=by
 intro e;have:=fw p;rw [e,h]at this;simp at this;omega
theorem cN (p:List Int):(ag p).length<=p.length:=by rw [fw,bn];exact cX p
theorem Ob {r g:List Int} {k m:Nat} (hr:bj k r) (hg:bj m g):bj (k+(m+1)) (iX r g):=by
 refine jd (by rw [tS];exact jm hr) fun z hz=> ?_
 unfold iX at hz;obtain⟨i,_,rfl⟩:=Kh.1 hz;have ha:((qA (aB g) (aB r)).natAbs:Int)<pw m:=by
  have:=Pq (aB g) (aB r);have:=bU hg (g.length-1);rw [aN g]at*;omega
 have hb:((qB (aB g) (aB r)).natAbs:Int)<pw k:=by
  have:=Nx (aB g) (aB r);have:=bU hr (r.length-1);rw [aN r]at*;omega
 have h1:=bQ (bU hr i) ha;have e:pw (k+(m+1))=4294967296*(pw k*pw m):=by rw [show k+(m+1)=(k+m)+1 by omega,bD,gG]
 have hp:0<pw k*pw m:=Je (aE _) (aE _);rw [e];unfold rF;split
 . have:=bQ hb (bU hg (i-(r.length-g.length)));omega
 . omega
theorem IX {m:Nat} {g:List Int} (hg:bj m g) (h0:0<g.length) (hl:aB g≠0): ∀{n:Nat} {k:Nat} {r:List Int},bj k r->r.length<=n->bj (k+n*(m+1)) (jT n r g)/\(jT n r g).length<g.length/\(ae r=r->ae (jT n r g)=jT n r g)
 |0,k,r,hr,hn=>by rw [HQ];exact⟨an hr (by omega),by omega,fun h=>h⟩
 |n+1,k,r,hr,hn=>by
  rw [pN];split
  . rename_i hgr;have ht:=qO h0 hgr hl;obtain⟨a1,a2,a3⟩:=IX hg h0 hl (n:=n) (k:=k+(m+1)) (r:=ag (iX r g)) (bP (Ob hr hg)) (by omega);refine⟨an a1 (by rw [Nat.succ_mul];omega),a2,fun _=>a3 (dP _)⟩
  . exact⟨an hr (by omega),by omega,fun h=>h⟩
theorem F3 {g:List Int} (h0:0<g.length) (hl:aB g≠0): ∀{n:Nat} {r:List Int},r.length<=n->(jT n r g).length<g.length/\(ae r=r->ae (jT n r g)=jT n r g)
 |0,r,hn=>by rw [HQ];exact⟨by omega,fun h=>h⟩
 |n+1,r,hn=>by
  rw [pN];split
  . rename_i hgr;have ht:=qO h0 hgr hl;obtain⟨a2,a3⟩:=F3 h0 hl (n:=n) (r:=ag (iX r g)) (by omega);exact⟨a2,fun _=>a3 (dP _)⟩
  . exact⟨by omega,fun h=>h⟩
theorem jf {m:Nat} {p g:List Int} (hp:bj m p) (hg:bj m g) (h3:p.length<=3) (h:ag g≠[]):bj (m+3*(m+1)) (dh p g)/\(dh p g).length<g.length/\ae (dh p g)=dh p g:=by
 have hl:=cN p;obtain⟨a1,a2,a3⟩:=IX (bP hg) (Xa.2 h) (ic h) (bP hp) (J1 (ag p).length);unfold dh;refine⟨an a1 ?_,by have:=cN g;omega,a3 (dP _)⟩;have:(ag p).length*(m+1)<=3*(m+1):=Jl _ (by omega);omega
theorem mG (a b:List Int):lT 0 a b=a:=by unfold lT;rfl
theorem jb (n:Nat) (a b:List Int):lT (n+1) a b=if 0<b.length then lT n b (dh a b)else a:=by rw [lT]
theorem Ff (n:Nat) (a:List Int):lT n a []=a:=by
 cases n with
 |zero=>exact mG _ _
 |succ n=>rw [jb];rfl
theorem uY {m:Nat}: ∀{n:Nat} {a b:List Int},a.length<=3->b.length<=3->ae b=b->b.length<=n->lT n a b=lT b.length a b
 |0,a,b,_,_,_,h=>by rw [show b.length=0 by omega]
 |n+1,a,b,h1,h2,h3,h=>by
  by_cases hb:0<b.length
  . obtain⟨q,hq⟩: ∃q,b.length=q+1:=⟨b.length-1,by omega⟩;have hne:=me h3 hb;have hlt:(dh a b).length<b.length/\ae (dh a b)=dh a b:=by
     obtain⟨a2,a3⟩:(jT (ag a).length (ag a) (ag b)).length<(ag b).length/\(ae (ag a)=ag a->ae (jT (ag a).length (ag a) (ag b))=jT (ag a).length (ag a) (ag b)):=F3 (Xa.2 hne) (ic hne) (J1 _);unfold dh;exact⟨by have:=cN b;omega,a3 (dP _)⟩
    rw [hq,jb,jb,if_pos hb,if_pos hb,uY (m:=m) (n:=n) h2 (by omega) hlt.2 (by omega)];rw [uY (m:=m) (n:=q) h2 (by omega) hlt.2 (by omega)]
  . have:b=[]:=Kr (by omega);subst this;rw [Ff,Ff]
theorem JC (n:Nat):kk (n+1)=kk n+3*(kk n+1):=by
 unfold kk;have:0<4^n:=Z4 (by omega);rw [Xi];omega
theorem Em {n:Nat} (h:n<=3):100<=kk n/\kk n<=6463:=by
 match n,h with
 |0,_=>decide
 |1,_=>decide
 |2,_=>decide
 |3,_=>decide
theorem IL {a b:Nat} (h:a<=b):kk a<=kk b:=by
 unfold kk;have:4^a<=4^b:=Xv (by omega) h;omega
theorem k311 :aH Tryz.prog WE:=av k309 hm Tryz.func311 (by kernel_rfl) (by kernel_rfl) Hs.ok (by kernel_rfl) (fun a=>Yp a.1 a.2) fun a hp=>by
 have h:Sc a.1 a.2:=by
  rw [<-PF];simp only [aA];obtain⟨p,q⟩:=a
  try dsimp only at hp
  unfold vR at hp;obtain⟨q1,q2,q3,q4⟩:=hp;simp [-List.getD_eq_getElem?_getD];have l1:=cN p;have l2:=cN q;refine⟨bu q1 (by omega),bu q2 (by omega),?_,fun a b hinv=> ?_⟩
  . unfold pF;have:=Em (show 3-(ag q).length<=3 by omega);exact⟨by omega,by omega,an (bP q1) (by omega),an (bP q2) (by omega),dP _,rfl⟩
  . unfold pF at hinv;obtain⟨i1,i2,i3,i4,i5,i6⟩:=hinv;have hk:=Em (show 3-b.length<=3 by omega);refine⟨fun hb=> ?_,fun hb=> ?_⟩
    . have hne:=me i5 hb;obtain⟨r1,r2,r3⟩:=jf i3 i4 i1 hne;refine⟨?_,?_,r2⟩
      . unfold ov;exact⟨an i3 (by omega),an i4 (by omega),by omega,by omega,hne⟩
      . unfold pF;have hs:=JC (3-b.length);have hm:=IL (show 3-b.length+1<=3-(dh a b).length by omega);refine⟨i2,by omega,an i4 (by omega),an r1 (by omega),r3,?_⟩;rw [<-i6];obtain⟨n,hn⟩: ∃n,b.length=n+1:=⟨b.length-1,by omega⟩;rw [hn,jb,if_pos (by omega),uY (m:=0) (n:=n) i2 (by omega) r3 (by omega)]
    . subst hb;rw [Kf,mG]at i6;refine⟨bu i3 (by omega),nr ?_⟩;unfold eU;rw [<-i6]
 exact h
end Go.Proofs.Big
namespace Go.Proofs.Big
open Go Go.Sx Go.Proofs
variable [bW]
def cR :wN (Int×Int) where
 n:=3
 enc a:=[.bool (decide (a.1<0)),Av (aF .u32) (dz a.1), .int .i64 a.2]
 dec l:=match l with|[x,y,z]=>oB (aj.dec [x,y]) fun a=>oB (rI .i64 z) fun b=>some (a,b)|_=>none
 qW:=(0,0)
 ak l:=match l with|[x,y,_]=>aj.ak [x,y]|_=>True
 ok l a h hg:=by
  split at h
  case h_2=>cases h
  obtain⟨a1,h1,h⟩:=gQ h;obtain⟨a2,h2,h⟩:=gQ h;cases h;have:=aj.ok _ _ h1 hg;exact⟨this.1,this.2.1,vX h2,trivial⟩
 self a:=by
  have h1:aj.dec [.bool (decide (a.1<0)),Av (aF .u32) (dz a.1)]=some a.1:=aj.self a.1;simp only [h1,oB,oI]
 kW a:=aj.kW a.1
 len _:=rfl
 Aa c x y a b h k:=by
  split at h
  case h_2=>cases h
  split at k
  case h_2=>cases k
  obtain⟨a1,h1,h⟩:=gQ h;obtain⟨a2,h2,h⟩:=gQ h;obtain⟨b1,k1,k⟩:=gQ k;obtain⟨b2,k2,k⟩:=gQ k;cases h;cases k;have e1:=aj.Aa c _ _ _ _ h1 k1;have e2:=Py (c:=c) h2 k2;simp only [af]at e1⊢;simp only [e1,e2,oB];cases c<;>rfl
@[simp] theorem codY_n :cR.n=3:=rfl
@[simp] theorem codY_dft :cR.qW=(0,0):=rfl
@[simp] theorem goodY (a:Int×Int):cR.ak (cR.enc a):=cR.kW a
end Go.Proofs.Big
namespace Go.Proofs.Big
open Go Go.Sx Go.Proofs
variable [bW]
attribute [local irreducible] lm nv tl dg dz
abbrev AB :Arg (Int×Int):=argA cR
abbrev yS (a:Int×Int):SV:=AB.enc a
def sPY :=iR.cons Pp (iR.one AB)
def sYY :=iR.cons AB (iR.one AB)
def cY :List Int->Int×Int->Int
 |[],_=>0
 |x::r,a=>cY r a*a.1+x*2^(a.2.toNat*r.length)
def bM (p:List Int) (a:Int×Int):Prop:=bj 1000 p/\p.length<=100/\(a.1.natAbs:Int)<pw 1000/\0<=a.2/\a.2<=32000
def qk (p:List Int) (a:Int×Int) (i k v:Int):Prop:= -1<=i/\i<p.length/\k=a.2*(p.length-1-i)/\v=cY (p.drop (i+1).toNat) a
def dp (a:Int×Int):Prop:=(a.1.natAbs:Int)<pw 10000/\0<=a.2/\a.2<=320000
def dd (a b:Int×Int):Int:=a.1*2^(max a.2 b.2-a.2).toNat-b.1*2^(max a.2 b.2-b.2).toNat
attribute [irreducible] cY bM qk dp dd
def c257 :bB:=fl sPY.dec (fun a=>bM a.1 a.2) (fun a=>iS (aW (cY a.1 a.2)))
def Wj :List (Nat×bB):=(257,c257)::WE
def a257 (p:List Int) (y:Int×Int):List kM:=[⟨.unit, .list [.int .i64 (.tm 6), .int .i64 (.tm 7), .N2 aj 1 0],fun _ (x:Int×Int×Int)=>qk p y x.1 x.2.1 x.2.2,fun _ (x:Int×Int×Int)=>(x.1+1).toNat⟩]
def SL (p:List Int) (y:Int×Int):Prop:=fQ WE Tryz.f257 (a257 p y) [pS p,yS y] (iS (aW (cY p y)))
def c256 :bB:=fl sYY.dec (fun a=>dp a.1/\dp a.2) (fun a=>iS (aW (dd a.1 a.2)))
def Wz :List (Nat×bB):=(256,c256)::Wj
def TU (y:Int×Int) (w:Int×Int):Prop:=fQ Wj Tryz.f256 [] [yS y,yS w] (iS (aW (dd y w)))
theorem Pf (p:List Int) (y:Int×Int):(
 let k:=fun(x:List Int)=>(↑x.length:Int)
 let r:=fun(x:List Int)=>x.length=x.length/\ ∀(i:Nat),i<x.length->pW (x.getD i 0)
 let t:=ab 24 True
 let c:=fun(x:Int×Int)=>x.fst
 let o:=fun(x:Int×Int)=>(dz (c x)).length
 let w:=fun(x:Int×Int) (y:Nat)=>(aF IntKind.u32).enc ((dz (c x)).getD y 0)
 let f:=fun(x:Int×Int)=>x.snd
 let g:=([]:List ar)
 let h:=fun(x:Int×Int)=>List.map ar.shape (ar.s (SV.bool (decide (c x<0)))::ar.s (SV.aI 1 (o x) fun i=>w x i)::ar.s (SV.int IntKind.i64 (f x))
  ::g)
 let u:=fun(x:Int×Int)=>sm (decide (c x<0))/\(sm (o x)/\ ∀(i:Nat),i<o x->sm ((dz (c x)).getD i 0)/\True)/\f x=f x/\True
 let j:=List.map ar.shape (ar.s SV.ff::g++(ar.s SV.aq::g++g))
 let v:=fun(x:Int)=>decide (x>=0)
 let e:=aj
 let q:=fun(x:List Int) (y m:Int)=>zz (x.getD y.toNat 0)*2^m.toNat
 let d:=fun(x y m:Int) (s:Int×Int) (x1:List Int)=>zz (zz x*zz (c s))+zz (q x1 y m)
 ab (3:Nat) ((qk p y (W (k p-(1:Int))) (0:Int) (0:Int)/\(r p/\ab (5:Nat) (sm (W (k p-(1:Int)))/\sm (0:Int)/\t))/\h y=h y/\u y/\j
  =j/\(false=false/\sm (0:Nat)/\True)/\True)/\ ∀(n n_1 a:Int),qk p y n n_1 a->True/\(v n=true->ab (2:Nat) (((e.ak (zc a)/\e.ak (zc (c
  y)))/\fit (zz a)/\fit (zz (c y)))/\((0:Int)<=n/\n<k p)/\ab (2:Nat) (((e.ak (zc (p.getD n.toNat (0:Int)))/\True)/\fit (zz (p.getD n.toNat (0:
  Int)))/\di n_1)/\ab (2:Nat) (((e.ak (zc (zz a*zz (c y)))/\e.ak (zc (q p n n_1)))/\fit (zz (zz a*zz (c y)))/\fit (zz (q p n n_1)))/\ru true
  /\ru true/\qk p y (W (n-(1:Int))) (W (n_1+f y)) (zz (d a n n_1 y p))/\(W (n-(1:Int))+(1:Int)).toNat<(n+(1:Int)).toNat/\(r p/\ab (5
  :Nat) (sm (W (n-(1:Int)))/\sm (W (n_1+f y))/\t))/\h y=h y/\u y/\j=j/\(decide (d a n n_1 y p<(0:Int))=decide (zz (d a n n_1 y p)<(0:Int))
  /\((dz (d a n n_1 y p)).length=(dz (zz (d a n n_1 y p))).length/\ ∀(i:Nat),i<(dz (d a n n_1 y p)).length->(dz (d a n n_1 y p)).getD i (0:Int)=(dz (zz
  (d a n n_1 y p))).getD i (0:Int)/\True)/\True)/\True))))/\(v n=false->True/\(e.ak (zc a)/\fit (zz a))/\ab (2:Nat) (aW (zz a)=aW (cY p y)/\
  True))))=SL p y:=by kernel_rfl
theorem MZ (y:Int×Int) (w:Int×Int):(
 let h:=fun(x:Int×Int)=>aj.ak (zc x.fst)/\True
 let d:=fun(x:Int×Int)=>zz x.fst
 let c:=fun(x:Int×Int)=>x.snd
 let e:=fun(x y:Int×Int)=>if c x>c y then c x else c y
 let f:=fun(x y:Int×Int)=>d x*2^(W (e y x-c x)).toNat
 let g:=fun(x y:Int×Int)=>d x*2^(W (e x y-c x)).toNat
 ab 4 ((h y/\fit (d y)/\di (W (e w y-c y)))/\ab 2 ((h w/\fit (d w)/\di (W (e w y-c w)))/\ab 2 (((aj.ak (zc (f y w))/\aj.ak (zc (g w
  y)))/\fit (zz (f y w))/\fit (zz (g w y)))/\ru true/\True/\aW (zz (f y w)-zz (g w y))=aW (dd y w)/\True))))=TU y w:=by kernel_rfl
theorem nZ (y:Int×Int):cY [] y=0:=by unfold cY;rfl
theorem gU (x:Int) (r:List Int) (y:Int×Int):cY (x::r) y=cY r y*y.1+x*2^(y.2.toNat*r.length):=by rw [cY]
theorem LA {p:List Int} {i:Nat} (h:i<p.length) (y:Int×Int):cY (p.drop i) y=cY (p.drop (i+1)) y*y.1+p.getD i 0*2^(y.2.toNat*(p.length-(i+1))):=by
 rw [Qa h,gU,Xd,J0,J4 h];rfl
theorem Vf {n k:Nat} (h:n<=32*k):(2:Int)^n<=pw k/\(0:Int)<2^n:=by
 rw [fE];exact⟨by exact_mod_cast Xv (by omega) h,Int.pow_pos (by omega)⟩
theorem rn {x:Int} {k m n:Nat} (hx:(x.natAbs:Int)<pw k) (hn:n<=32*m):((x*2^n).natAbs:Int)<pw (k+m+1):=by
 obtain⟨h1,h2⟩:=Vf hn;have h3:(((2:Int)^n).natAbs:Int)<pw m+1:=by omega
 have:=bQ hx h3;rw [bD,gG];have e:pw k*(pw m+1)=pw k*pw m+pw k:=by rw [Kg,Ke]
 have:pw k*1<=pw k*pw m:=Jt (by have:=aE m;omega) (by have:=aE k;omega);have:=aE k;omega
theorem Om {y:Int×Int} (h1:(y.1.natAbs:Int)<pw 1000) (h3:y.2<=32000): ∀{p:List Int},(∀z∈p,(z.natAbs:Int)<pw 1000)->((cY p y).natAbs:Int)<pw (2002*p.length+1)
 |[],_=>by rw [nZ];simpa using aE 1
 |x::r,h=>by
  have ih:=Om h1 h3 (p:=r) fun z hz=>h z (by simp [hz])
  rw [gU];have a1:=bQ ih h1;have a2:((x*2^(y.2.toNat*r.length)).natAbs:Int)<pw (1000+1000*r.length+1):=rn (h x (by simp)) (by
   have:y.2.toNat*r.length<=32000*r.length:=Jl _ (by omega);omega)
  rw [<-gG]at a1;have b1:=gT (show 2002*r.length+1+1000<=2002*r.length+2002 by omega);have b2:=gT (show 1000+1000*r.length+1<=2002*r.length+2002 by omega);rw [Jc,show 2002*(r.length+1)+1=2002*r.length+2002+1 by omega,bD];have:=aE (2002*r.length+2002);omega
theorem k257 :aH Tryz.prog Wj:=av k311 hm Tryz.func257 (by kernel_rfl) (by kernel_rfl) sPY.ok (by kernel_rfl) (fun a=>a257 a.1 a.2) fun a hp=>by
 have h:SL a.1 a.2:=by
  rw [<-Pf];simp only [aA];obtain⟨p,y⟩:=a
  try dsimp only at hp
  unfold bM at hp;obtain⟨q1,q2,q3,q4,q5⟩:=hp;simp [-List.getD_eq_getElem?_getD];rw [aG (n:=(p.length:Int)-1) (by omega) (by omega)];have hmem: ∀z∈p,(z.natAbs:Int)<pw 1000:=by unfold bj at q1;exact q1.2
  have bd:=fun k=>Om (y:=y) q3 q5 (p:=p.drop k) fun z hz=>hmem z (List.mem_of_mem_drop hz)
  refine⟨?_,fun i k v hinv=> ?_⟩
  . unfold qk;refine⟨by omega,by omega,?_,?_⟩
    . rw [show(p.length:Int)-1-(p.length-1)=0 by omega];simp
    . rw [Y6 (by omega),nZ]
  . unfold qk at hinv;obtain⟨i1,i2,i3,i4⟩:=hinv;have hv:fit v:=by rw [i4];exact bz (bd _) (by rw [Xd];omega)
    refine⟨fun hi=> ?_,fun hi=>⟨hv,?_⟩⟩
    . have e3:k.toNat=y.2.toNat*(p.length-(i.toNat+1)):=by
       rw [i3,Int.toNat_mul q4 (by omega)];congr 1;omega
      have hk0:0<=k:=by rw [i3];exact Ja q4 (by omega)
      have hk1:k<=32000*100:=by rw [i3];exact Qb q5 (by omega) (by omega) (by omega)
      have hst:=LA (p:=p) (i:=i.toNat) (by omega) y;have hb:=bd i.toNat;rw [<-e3,show i.toNat+1=(i+1).toNat by omega,<-i4]at hst;have hx:=bU q1 i.toNat;have s1:((p.getD i.toNat 0*2^k.toNat).natAbs:Int)<pw (1000+100000+1):=rn hx (by omega);have hvb:(v.natAbs:Int)<pw (2002*100+1):=by
       have h1:=bd (i+1).toNat;rw [<-i4,Xd]at h1;have:=gT (show 2002*(p.length-(i+1).toNat)+1<=2002*100+1 by omega);omega
      have s2:=bQ hvb q3;rw [<-gG]at s2;have s3:((v*y.1).natAbs:Int)<pw (2002*100+1+1000+1):=by
       have e9:pw (2002*100+1+1000+1)=4294967296*pw (2002*100+1+1000):=bD _;have e8:=aE (2002*100+1+1000);rw [e9];exact Zh s2 (by omega)
      rw [aG (n:=i-1) (by omega) (by omega),aG (n:=k+y.2) (by omega) (by omega)];refine⟨⟨hv,bz q3 (by omega)⟩,⟨hi,i2⟩,⟨bz hx (by omega),by unfold di;omega⟩,⟨bz s3 (by omega),bz s1 (by omega)⟩,?_,by omega⟩;unfold qk;refine⟨by omega,by omega,?_,?_⟩
      . rw [i3,show(p.length:Int)-1-(i-1)=(p.length-1-i)+1 by omega,Kg,Ke]
      . rw [show(i-1+1).toNat=i.toNat by omega];exact hst.symm
    . rw [i4,show(i+1).toNat=0 by omega];rfl
 exact h
theorem ZO :aH Tryz.prog Wz:=av k257 hm Tryz.func256 (by kernel_rfl) (by kernel_rfl) sYY.ok (by kernel_rfl) (fun _=>[]) fun a hp=>by
 have h:TU a.1 a.2:=by
  rw [<-MZ];simp only [aA];obtain⟨y,w⟩:=a
  try dsimp only at hp
  unfold dp at hp;obtain⟨⟨a1,a2,a3⟩,b1,b2,b3⟩:=hp;simp [-List.getD_eq_getElem?_getD];have em:(if y.2<w.2 then w.2 else y.2)=max y.2 w.2:=by split<;>omega
  rw [em];rw [aG (n:=max y.2 w.2-y.2) (by omega) (by omega),aG (n:=max y.2 w.2-w.2) (by omega) (by omega)];have s1:((y.1*2^(max y.2 w.2-y.2).toNat).natAbs:Int)<pw (10000+10000+1):=rn a1 (by omega);have s2:((w.1*2^(max y.2 w.2-w.2).toNat).natAbs:Int)<pw (10000+10000+1):=rn b1 (by omega);refine⟨⟨bz a1 (by omega),by unfold di;omega⟩,⟨bz b1 (by omega),by unfold di;omega⟩,⟨bz s1 (by omega),bz s2 (by omega)⟩,?_⟩
  unfold dd;rfl
 exact h
def Ed :Nat->Int->Nat->Nat
 |0,_,i=>i
 |n+1,z,i=>if z.natAbs/2^i%2=0 then Ed n z (i+1)else i
def eV (z:Int) (k:Int):Int×Int:=if z=0 then(0,0)else(z/2^Ed k.toNat z 0,k-Ed k.toNat z 0)
def pL (z k:Int):Prop:=(z.natAbs:Int)<pw 30000/\0<=k/\k<=400000
def sj (z k i:Int):Prop:=0<=i/\i<=k/\z≠0/\z.natAbs%2^i.toNat=0/\Ed (k-i).toNat z i.toNat=Ed k.toNat z 0
attribute [irreducible] Ed eV pL sj
def c365 :bB:=fl T0.dec (fun a=>pL a.1 a.2) (fun a=>yS (eV a.1 a.2))
def U0 :List (Nat×bB):=(365,c365)::Wz
def YS (z:Int) (k:Int):List kM:=[⟨.unit, .int .i64 (.tm 5),fun _ (i:Int)=>sj z k i,fun _ (i:Int)=>(k-i).toNat⟩]
def TP (z:Int) (k:Int):Prop:=fQ Wz Tryz.f365 (YS z k) [zS z,iS k] (yS (eV z k))
theorem LI (z:Int) (k:Int):(
 let f:=fun(x:Int)=>(↑(dz (zz x)).length:Int)
 let g:=fun(x:Int)=>f x==0
 let h:=fun(x y:Int)=>decide ((eV x y).fst<0)
 let j:=sm (0:Int)
 let o:=ab 33 True
 let w:=fun(x:Int) (y:Nat)=>(aF IntKind.u32).enc ((dz x).getD y 0)
 let c:=([]:List ar)
 let p:=fun(x:Int)=>List.map ar.shape (ar.s (SV.bool (decide (x<0)))::ar.s (SV.aI 1 (dz x).length fun i=>w x i)::c)
 let q:=List.map ar.shape (ar.s SV.ff::c++(ar.s SV.aq::c++c)++(ar.s (SV.int IntKind.i64 0)::c++c))
 let r:=fun(x:Int)=>p x=p x/\pW (zz x)/\q=q/\ab 2 (j/\True)/\True
 let t:=(32:Int)≠(0:Int)
 let e:=fun(x:Int)=>W (x.tdiv 32)
 let u:=fun(x y:Int)=>bits BinOp.and IntKind.u32 ((dz (zz x)).getD (e y).toNat 0/2^min (IntKind.u64.wrap (y.tmod 32)).toNat 32) 1==0
 let d:=fun(x y:Int)=>zz (zz x)/2^y.toNat
 let v:=fun(x y m:Int)=>((aj.ak (zc (zz x))/\True)/\fit (zz (zz x))/\di y)/\ab 2 ((decide (d x y<0)=h x m/\((dz (d x y)).length=(dz (eV
  x m).fst).length/\ ∀(i:Nat),i<(dz (d x y)).length->(dz (d x y)).getD i 0=(dz (eV x m).fst).getD i 0/\True)/\W (m-y)=(eV x m).snd/\True)/\True)
 ab 2 ((aj.ak (zc z)/\fit (zz z))/\ab 2 ((g z=true->ab 2 ((h z k=false/\(dz (eV z k).fst).length=0/\0=(eV z k).snd/\True)/\True))/\(g z
  =false->True/\(sj z k 0/\(True/\k=k/\ab 3 (j/\o))/\r z)/\ ∀(n:Int),sj z k n->(decide (n<k)=true->t/\(0<=e n/\e n<f z)/\t/\0<=
  IntKind.u64.wrap (n.tmod 32)/\True/\(u z n=true->True/\sj z k (W (n+1))/\(k-W (n+1)).toNat<(k-n).toNat/\(True/\k=k/\ab 3 (sm (W (n+1))
  /\o))/\r z)/\(u z n=false->ab 2 (v z n k)))/\(decide (n<k)=false->ab 3 (v z n k))))))=TP z k:=by kernel_rfl
theorem QV (a:Nat) {r:Nat} (hr:r<32):a%4294967296/2^r%2=a/2^r%2:=by
 have h:=Nat.testBit_mod_two_pow a 32 r;simp only [Nat.testBit_eq_decide_div_mod_eq,hr,decide_true,Qh,decide_eq_decide]at h;rw [show(2:Nat)^32=4294967296 from rfl]at h;omega
theorem D5 (a n:Nat):a/2^(32*(n/32))%4294967296/2^(n%32)%2=a/2^n%2:=by
 rw [QV _ (Ki _ (by omega)),Nat.div_div_eq_div_mul,<-Nat.pow_add,Q5]
theorem RP {x:Int} (h:GD x) (r:Nat):GD (x/2^r):=by
 have hp:(0:Int)<2^r:=Int.pow_pos (by omega);exact⟨Kb h.1 (by omega),Zh (Z3 _ h.1) h.2⟩
theorem dz_bit {z:Int} {n:Nat} (h:n/32<(dz z).length):(dz z).getD (n/32) 0/2^(n%32)%2=((z.natAbs/2^n%2:Nat):Int):=by
 have hd:dz z=dg (dz z).length (z.natAbs:Int):=by
  have:=PD (bI z).1;rw [iB]at this;exact this.symm
 have e:(dz z).getD (n/32) 0=((z.natAbs/2^(32*(n/32))%4294967296:Nat):Int):=by
  rw [hd,tA _ h,fE,Int.natCast_emod,Int.natCast_ediv,Int.natCast_pow];rfl
 rw [e,<-D5 z.natAbs n]
 norm_cast
theorem low_len {z:Int} {n:Nat} (h:z≠0) (hm:z.natAbs%2^n=0):n/32<(dz z).length:=by
 rcases Kv (n/32) (dz z).length with h1|h1
 . exact h1
 . exfalso;have h2:=(fV (bI z).1).2;rw [iB,fE]at h2;have h3:z.natAbs<2^(32*(dz z).length):=by exact_mod_cast h2
   have h4:2^(32*(dz z).length)<=2^n:=Xv (by omega) (by omega);have h5:=Nat.le_of_dvd (by omega) (Nat.dvd_of_mod_eq_zero hm);omega
theorem OZ {x:Int} (hx:GD x):bits .and .u32 x 1=x%2:=by
 have:=sb (r:=1) hx (by omega);rw [show((2:Int)^min 1 32)=2 from rfl,Aj (n:=2) (by omega) (by omega),Aj (by omega) (by omega)]at this;rw [show((2:Int)-1)=1 from rfl]at this;rw [this];rfl
theorem TT (z:Int) (i:Nat):Ed 0 z i=i:=by unfold Ed;rfl
theorem Mu (n:Nat) (z:Int) (i:Nat):Ed (n+1) z i=if z.natAbs/2^i%2=0 then Ed n z (i+1)else i:=by rw [Ed]
theorem redY_of {z k n:Int} (h:z≠0) (hn:0<=n) (e:Ed k.toNat z 0=n.toNat):eV z k=(z/2^n.toNat,k-n):=by
 unfold eV;rw [if_neg h,e,Int.toNat_of_nonneg hn]
theorem k365 :aH Tryz.prog U0:=av ZO hm Tryz.func365 (by kernel_rfl) (by kernel_rfl) T0.ok (by kernel_rfl) (fun a=>YS a.1 a.2) fun a hp=>by
 have h:TP a.1 a.2:=by
  rw [<-LI];simp only [aA];obtain⟨z,k⟩:=a
  try dsimp only at hp
  unfold pL at hp;obtain⟨p1,p2,p3⟩:=hp;have hf:fit z:=bz p1 (by omega);simp [-List.getD_eq_getElem?_getD];refine⟨hf,fun h0=> ?_,fun h0=>⟨?_,fun n hinv=> ?_⟩⟩
  . have e:z=0:=oz.1 (by rw [h0];rfl);subst e;have:eV 0 k=(0,0):=by unfold eV;rfl
    rw [this];exact⟨by omega,gz,rfl⟩
  . have hz:z≠0:=fun e=>h0 (Kr (oz.2 e))
    unfold sj;exact⟨by omega,p2,hz,by simpa using Nat.mod_one _,by simp⟩
  . unfold sj at hinv⊢;obtain⟨i1,i2,hz,i4,i5⟩:=hinv;have hlen:=low_len hz i4;have hs:di n:=by unfold di;omega
    have fin:Ed k.toNat z 0=n.toNat->(fit z/\di n)/\(z/2^n.toNat<0↔(eV z k).fst<0)/\((dz (z/2^n.toNat)).length=(dz (eV z k).fst).length/\ ∀(i:Nat),i<(dz (z/2^n.toNat)).length->(dz (z/2^n.toNat)).getD i 0=(dz (eV z k).fst).getD i 0)/\W (k-n)=(eV z k).snd:=by
     intro e;rw [redY_of hz i1 e];exact⟨⟨hf,hs⟩,J9,⟨rfl,fun _ _=>rfl⟩,aG (by omega) (by omega)⟩
    have e1:W (n.tdiv 32)=((n.toNat/32:Nat):Int):=by
     rw [Ky i1,aG (by omega) (by omega)];omega
    have e2:IntKind.u64.wrap (n.tmod 32)=((n.toNat%32:Nat):Int):=by
     rw [X9 i1,Su,ct (by omega) (by omega)];omega
    rw [e1,e2,K7,K7,Qn (by omega),OZ (RP (bH (bI z).1 _) _),dz_bit hlen];refine⟨fun hn=>⟨by omega,by omega,fun hb=> ?_,fun hb=>fin ?_⟩,fun hn=>fin ?_⟩
    . have hb':z.natAbs/2^n.toNat%2=0:=by omega
      rw [aG (n:=n+1) (by omega) (by omega)];refine⟨⟨by omega,by omega,hz,?_,?_⟩,by omega⟩
      . rw [show(n+1).toNat=n.toNat+1 by omega,Xi];obtain⟨q,hq⟩:=Nat.dvd_of_mod_eq_zero i4;have hpos:0<2^n.toNat:=Z4 (by omega);rw [hq,Nat.mul_div_cancel_left _ hpos]at hb';rw [hq];obtain⟨t,ht⟩:=Nat.dvd_of_mod_eq_zero hb';rw [ht,<-Nat.mul_assoc];exact Nat.mul_mod_right _ _
      . rw [<-i5];obtain⟨m,hm⟩: ∃m,(k-n).toNat=m+1:=⟨(k-n).toNat-1,by omega⟩;rw [hm,Mu,if_pos hb',show(k-(n+1)).toNat=m by omega,show(n+1).toNat=n.toNat+1 by omega]
    . have hb': ¬z.natAbs/2^n.toNat%2=0:=by omega
      rw [<-i5];obtain⟨m,hm⟩: ∃m,(k-n).toNat=m+1:=⟨(k-n).toNat-1,by omega⟩;rw [hm,Mu,if_neg hb']
    . rw [<-i5,show(k-n).toNat=0 by omega,TT]
 exact h
def bb (a b:Int×Int):Int×Int:=eV (a.1*2^(max a.2 b.2-a.2).toNat+b.1*2^(max a.2 b.2-b.2).toNat) (max a.2 b.2+1)
attribute [irreducible] bb
def c315 :bB:=fl sYY.dec (fun a=>dp a.1/\dp a.2) (fun a=>yS (bb a.1 a.2))
def U7 :List (Nat×bB):=(315,c315)::U0
def So (y:Int×Int) (w:Int×Int):Prop:=fQ U0 Tryz.f315 [] [yS y,yS w] (yS (bb y w))
theorem ND (y:Int×Int) (w:Int×Int):(
 let f:=aj
 let k:=fun(x:Int×Int)=>f.ak (zc x.fst)/\True
 let g:=fun(x:Int×Int)=>zz x.fst
 let c:=fun(x:Int×Int)=>x.snd
 let d:=fun(x y:Int×Int)=>if c x>c y then c x else c y
 let h:=fun(x y:Int×Int)=>g x*2^(W (d y x-c x)).toNat
 let j:=fun(x y:Int×Int)=>g x*2^(W (d x y-c x)).toNat
 let o:=fun(x y:Int×Int)=>zz (zz (h x y)+zz (j y x))
 let e:=fun(x y:Int×Int)=>eV (o x y) (W (d y x+1))
 ab 4 ((k y/\fit (g y)/\di (W (d w y-c y)))/\ab 2 ((k w/\fit (g w)/\di (W (d w y-c w)))/\ab 2 (((f.ak (zc (h y w))/\f.ak (zc (j w y)))/\
  fit (zz (h y w))/\fit (zz (j w y)))/\ab 2 (((f.ak (zc (zz (h y w)+zz (j w y)))/\True)/\pL (o y w) (W (d w y+1)))/\ru true/\True/\(decide ((e y
  w).fst<0)=decide ((bb y w).fst<0)/\((dz (e y w).fst).length=(dz (bb y w).fst).length/\ ∀(i:Nat),i<(dz (e y w).fst).length->(dz (e y w).fst).getD
  i 0=(dz (bb y w).fst).getD i 0/\True)/\(e y w).snd=(bb y w).snd/\True)/\True)))))=So y w:=by kernel_rfl
theorem k315 :aH Tryz.prog U7:=av k365 hm Tryz.func315 (by kernel_rfl) (by kernel_rfl) sYY.ok (by kernel_rfl) (fun _=>[]) fun a hp=>by
 have h:So a.1 a.2:=by
  rw [<-ND];simp only [aA];obtain⟨y,w⟩:=a
  try dsimp only at hp
  unfold dp at hp;obtain⟨⟨a1,a2,a3⟩,b1,b2,b3⟩:=hp;simp [-List.getD_eq_getElem?_getD];have em:(if y.2<w.2 then w.2 else y.2)=max y.2 w.2:=by split<;>omega
  rw [em];rw [aG (n:=max y.2 w.2-y.2) (by omega) (by omega),aG (n:=max y.2 w.2-w.2) (by omega) (by omega),aG (n:=max y.2 w.2+1) (by omega) (by omega)];have s1:((y.1*2^(max y.2 w.2-y.2).toNat).natAbs:Int)<pw (10000+10000+1):=rn a1 (by omega);have s2:((w.1*2^(max y.2 w.2-w.2).toNat).natAbs:Int)<pw (10000+10000+1):=rn b1 (by omega);have e9:pw (10000+10000+1+1)=4294967296*pw (10000+10000+1):=bD _;have e8:=aE (10000+10000+1)
  have e7:=gT (show 10000+10000+1+1<=30000 by omega);have hm:bb y w=eV (y.1*2^(max y.2 w.2-y.2).toNat+w.1*2^(max y.2 w.2-w.2).toNat) (max y.2 w.2+1):=by unfold bb;rfl
  rw [hm];refine⟨⟨bz a1 (by omega),by unfold di;omega⟩,⟨bz b1 (by omega),by unfold di;omega⟩,⟨bz s1 (by omega),bz s2 (by omega)⟩,?_,J9,⟨rfl,fun _ _=>rfl⟩,rfl⟩;unfold pL;generalize pw (10000+10000+1+1)=Q at*
  generalize pw (10000+10000+1)=P at*
  generalize pw 30000=R at*
  refine⟨?_,by omega,by omega⟩;have:=Int.natAbs_add_le (y.1*2^(max y.2 w.2-y.2).toNat) (w.1*2^(max y.2 w.2-w.2).toNat);omega
 exact h
end Go.Proofs.Big
