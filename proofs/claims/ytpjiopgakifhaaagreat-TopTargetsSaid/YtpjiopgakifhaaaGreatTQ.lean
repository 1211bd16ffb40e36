import Derived.Test.YtpjiopgakifhaaaGreatTJ
import Derived.Test.YtpjiopgakifhaaaGreatTP
set_option linter.unusedSectionVars false
set_option linter.unusedSimpArgs false
set_option linter.unusedVariables false
set_option maxRecDepth 100000
namespace Go.Proofs.Big
open Go Go.Sx Go.Proofs
variable [bW]
set_option maxHeartbeats 4000000
attribute [local irreducible] lm nv tl dg dz
def og (c:Int) (l:List Int):List Int:=l.map fun z=>z*c
def tK (r g:List Int) (t:Int) (i n:Nat):List Int:=(List.range r.length).map fun m=>if i<=m/\m<i+n then r.getD m 0-t*g.getD (m-i) 0 else r.getD m 0
def ph (g:List Int) (i:Nat) (s:List Int×List Int):List Int×List Int:=
 (tK (og (aB g) s.1) g (s.1.getD (i+g.length-1) 0) i g.length,(og (aB g) s.2).set i (s.1.getD (i+g.length-1) 0))
def oY (g:List Int):Nat->List Int×List Int->List Int×List Int
 |0,s=>s
 |n+1,s=>oY g n (ph g n s)
def qN (p g:List Int):Nat:=tl p-g.length+1
def mz (p g:List Int):List Int:=ag (oY g (qN p g) (ae p,List.replicate (qN p g) 0)).2
def zB (p g:List Int):Prop:=bj 10000 p/\bj 10000 g/\p.length<=8/\0<g.length/\g.length<=tl p
def oH (p g:List Int) (i:Int) (r q:List Int):Prop:= -1<=i/\i<qN p g/\r.length=tl p/\q.length=qN p g/\bj (10000+10001*(qN p g-1-i).toNat) r/\bj (10000+10001*(qN p g-1-i).toNat) q/\oY g (i+1).toNat (r,q)=oY g (qN p g) (ae p,List.replicate (qN p g) 0)
def gE (c:Int) (r0:List Int) (j:Int) (r:List Int):Prop:=0<=j/\j<=r0.length/\r=og c (r0.take j.toNat)++r0.drop j.toNat
def iV (g:List Int) (t:Int) (i:Int) (r0:List Int) (j:Int) (r:List Int):Prop:=0<=j/\j<=g.length/\r=tK r0 g t i.toNat j.toNat
attribute [irreducible] og tK ph oY qN mz zB oH gE iV
def c312 :bB:=fl Hs.dec (fun a=>zB a.1 a.2) (fun a=>pS (mz a.1 a.2))
def Um :List (Nat×bB):=(312,c312)::U7
def aac (p:List Int) (g:List Int):List kM:=[⟨.unit, .list [.int .i64 (.tm 8), .iQ aj (tl p) 0 0, .iQ aj (qN p g) 2 0],fun _ (x:Int×List Int×List Int)=>oH p g x.1 x.2.1 x.2.2,fun _ (x:Int×List Int×List Int)=>(x.1+1).toNat⟩,⟨.list [.N2 aj 1 0, .iQ aj (tl p) 0 0], .list [.int .i64 (.tm 45), .iQ aj (tl p) 0 0],fun(y:Int×List Int) (x:Int×List Int)=>gE y.1 y.2 x.1 x.2,fun(y:Int×List Int) (x:Int×List Int)=>(tl p-x.1).toNat⟩,⟨.list [.N2 aj 1 0, .iQ aj (qN p g) 2 0], .list [.int .i64 (.tm 60), .iQ aj (qN p g) 2 0],fun(y:Int×List Int) (x:Int×List Int)=>gE y.1 y.2 x.1 x.2,fun(y:Int×List Int) (x:Int×List Int)=>(qN p g-x.1).toNat⟩,⟨.list [.int .i64 (.tm 8), .N2 aj 3 0, .iQ aj (tl p) 0 0], .list [.int .i64 (.tm 79), .iQ aj (tl p) 0 0],fun(y:Int×Int×List Int) (x:Int×List Int)=>iV g y.2.1 y.1 y.2.2 x.1 x.2,fun(y:Int×Int×List Int) (x:Int×List Int)=>(g.length-x.1).toNat⟩]
def Tm (p:List Int) (g:List Int):Prop:=fQ U7 Tryz.f312 (aac p g) [pS p,pS g] (pS (mz p g))
theorem Oq (p:List Int) (g:List Int):(
 let P:=true=true
 let c:=aj
 let A:=fun(x:List Int) (m:Nat)=>x.getD m 0
 let G:=fun(x:List Int) (m:Nat)=>c.enc (A x m)
 let e:=fun(x:List Int)=>(↑x.length:Int)
 let d3:=fun(x:List Int)=>W (e x-1)
 let Q:=fun(x:List Int)=>(ae (eR x)).length
 let h:=fun(x:List Int)=>(↑(Q x):Int)
 let K:=fun(x m:List Int)=>W (W (h x-e m)+1)
 let B:=fun(x m:List Int)=>(K x m).toNat
 let o:=fun(x m:List Int)=>(↑(B x m):Int)
 let g4:=fun(x:List Int) (m:Nat)=>c.enc ((ae (eR x)).getD m 0)
 let R:=fun(x:List Int)=>ah c (tl x) fun i=>g4 x i
 let d4:=fun(m s:List Int)=>ah c (qN m s) fun x=>[SV.ff,SV.aq]
 let r:=fun(x:List Int)=>x.length=x.length/\ ∀(i:Nat),i<x.length->pW (A x i)
 let e7:=sm 0
 let t:=fun(x:List Int)=>e7/\sm (Q x)
 let u:=fun(x m:List Int)=>e7/\sm (B x m)
 let e8:=ab 94 True
 let e9:=([]:List (Option (Nat×Nat)))
 let d:=e9=e9
 let d5:=c.n
 let H:=2=d5
 let d6:=fun(x:List Int) (m:Nat)=>dz ((ae (eR x)).getD m 0)
 let f0:=List.map ar.shape ([ar.s SV.ff]++([ar.s SV.aq]++[]))
 let C:=f0=f0
 let d7:=fun(x:List Int)=>x.getD (d3 x).toNat 0
 let J:=fun(x:List Int)=>pW (d7 x)
 let f1:=fun(x:Int)=>decide (x>=0)
 let T:=fun(x:Int) (m:List Int)=>W (W (x+e m)-1)
 let v:=fun(x:List Int)=>zz (d7 x)
 let f:=fun(x m:List Int)=>ah c (tl x) (G m)
 let d8:=sm (0:Int)
 let f2:=ab 57 True
 let c0:=fun(x:List Int)=>tl x=tl x
 let c1:=d5=d5
 let L:=fun(x:List Int) (m:Nat)=>decide (A x m<0)
 let D:=fun(x:List Int) (m:Nat)=>(dz (A x m)).length
 let d9:=fun(x:List Int) (m s:Nat)=>(dz (A x m)).getD s 0
 let e0:=fun(x m:List Int)=>(c0 x/\c1/\ ∀(i:Nat),i<tl x->L m i=decide ((f x m).getD i 0<0)/\(D m i=(dz ((f x m).getD i 0)).length/\ ∀(i_1:
  Nat),i_1<D m i->d9 m i i_1=(dz ((f x m).getD i 0)).getD i_1 0/\True)/\True)/\True
 let M:=fun(x m:List Int)=>qN x m=qN x m
 let k:=fun(x m:List Int) (s:Int)=>x.getD (0+(T s m).toNat) 0
 let c2:=fun(x m:List Int) (s:Int)=>C/\pW (k x m s)/\True
 let f3:=fun(x m s x1:List Int) (y1:Int)=>C/\J x/\d/\((M m x/\c1/\ ∀(i:Nat),i<qN m x->pW (A s i))/\True)/\c2 x1 x y1
 let E:=fun(x:Int)=>0+x.toNat
 let N:=fun(x:List Int) (m:Int)=>x.getD (E m) 0
 let f4:=fun(x m:List Int) (s:Int)=>(c.ak (zc (N x s))/\c.ak (zc (d7 m)))/\fit (zz (N x s))/\fit (v m)
 let e1:=ru true
 let q:=fun(x:Int)=>W (x+1)
 let w:=fun(x:Nat) (m:Int)=>decide (x=E m)
 let c3:=fun(x m:List Int) (s:Int)=>zz (N x s)*v m
 let y:=fun(x:Int) (m s:List Int)=>fun i'=>af (w i' x) (cE (c.enc (N m x)) 0 (zc (c3 m s x))) (G m i')
 let f5:=fun(x:Nat) (m:Int) (s x1:List Int)=>if w x m=true then decide (c3 s x1 m<0)else L s x
 let c4:=fun(x:Nat) (m:Int) (s x1:List Int)=>if w x m=true then(dz (c3 s x1 m)).length else D s x
 let z:=aF IntKind.u32
 let e2:=fun(x:List Int) (m s:Nat)=>z.enc (d9 x m s)
 let f6:=fun(x m:Nat) (s:Int) (x1 y1:List Int)=>if w x s=true then z.enc ((dz (c3 x1 y1 s)).getD m 0)else e2 x1 x m
 let F:=fun(x m s:List Int)=>ah c (qN x m) (G s)
 let f7:=ab 42 True
 let f8:=fun(x m:List Int)=>(c0 x/\c1/\ ∀(i:Nat),i<tl x->pW (A m i))/\True
 let e3:=fun(x:Int) (m s:List Int)=>0<=x/\x<o m s
 let f9:=ab 23 True
 let g0:=fun(x:Nat) (m:Int) (s x1 y1:List Int)=>if w x m=true then decide (k s x1 m<0)else L y1 x
 let c5:=fun(x:Nat) (m:Int) (s x1 y1:List Int)=>if w x m=true then(dz (k s x1 m)).length else D y1 x
 let e4:=fun(x m:Nat) (s:Int) (x1 y1 u1:List Int)=>if w x s=true then z.enc ((dz (k x1 y1 s)).getD m 0)else e2 u1 x m
 let g1:=fun(x m s x1:List Int) (y1:Int)=>C/\J x/\d/\((M m x/\sm 2/\ ∀(i:Nat),i<qN m x->sm (g0 i y1 s x x1)/\(sm (c5 i y1 s x x1)/\ ∀(i_1:
  Nat),i_1<c5 i y1 s x x1->bK (e4 i i_1 y1 s x x1) (e4 i i_1 y1 s x x1))/\True)/\True)/\c2 s x y1
 let g2:=fun(x m:Int) (s:List Int)=>0<=W (x+m)/\W (x+m)<h s
 let c6:=fun(x m:Int)=>0+(W (x+m)).toNat
 let c7:=fun(x:List Int) (m s:Int)=>x.getD (c6 m s) 0
 let e5:=fun(x m:List Int) (s x1:Int)=>zz (k x m s)*zz (m.getD x1.toNat 0)
 let c8:=fun(x:Nat) (m s:Int)=>decide (x=c6 m s)
 let c9:=fun(x m s:List Int) (x1 y1:Int)=>zz (c7 x x1 y1)-zz (e5 m s x1 y1)
 let d0:=fun(x m s x1:List Int) (y1 u1:Int)=>ah c (tl x) fun i'=>af (c8 i' y1 u1) (cE (c.enc (c7 m y1 u1)) 0 (zc (c9 m s x1 y1 u1))) (G m i')
 let g3:=fun(x:Nat) (m s:Int) (x1 y1 u1:List Int)=>if c8 x m s=true then(dz (c9 x1 y1 u1 m s)).length else D x1 x
 let d1:=fun(x m s x1:List Int) (y1:Int)=>ah c (qN x m) fun i'=>af (w i' y1) (cE (c.enc (N s y1)) 0 (zc (k x1 m y1))) (G s i')
 let g5:=fun(x:List Int) (m:Nat)=>c.enc (x.getD (0+m) 0)
 let d2:=fun(x m s:List Int)=>ah c (B x m) fun i=>g5 s i
 let O:=fun(x m s:List Int)=>(ag (d2 x m s)).length
 let e6:=fun(x m s:List Int) (x1:Nat)=>dz ((ag (d2 x m s)).getD (0+x1) 0)
 ab 2 (((∀(i:Nat),i<p.length->P/\c.ak (G p i))/\cr (eR p))/\True/\(0<=d3 g/\d3 g<e g)/\True/\(sm (K p g)/\0<=K p g/\K p g<=9223372036854775807
  /\32*K p g<=281474976710656)/\ab 2 ((oH p g (W (o p g-1)) (R p) (d4 p g)/\(True/\r g/\ab 3 (t p/\True/\u p g/\sm (W (o p g-1))/\e8))/\d/\((Q
  p=tl p/\H/\ ∀(i:Nat),i<Q p->decide ((ae (eR p)).getD i 0<0)=decide ((R p).getD i 0<0)/\((d6 p i).length=(dz ((R p).getD i 0)).length/\ ∀(i_1
  :Nat),i_1<(d6 p i).length->(d6 p i).getD i_1 0=(dz ((R p).getD i 0)).getD i_1 0/\True)/\True)/\True)/\C/\J g/\d/\((B p g=qN p g/\H/\ ∀(i:Nat),
  i<B p g->decide ((d4 p g).getD i 0<0)=false/\(dz ((d4 p g).getD i 0)).length=0/\True)/\True)/\True)/\ ∀(n:Int) (l l_1:List Int),oH p g n l
  l_1->True/\(f1 n=true->(0<=T n g/\T n g<h p)/\0+(T n g).toNat<tl p/\ab 2 ((gE (v g) (f p l) 0 (f p l)/\(True/\r g/\ab 3 (t p/\True/\u p
  g/\n=n/\ab 35 (h p=h p/\d8/\f2)))/\d/\e0 p l/\f3 g p l_1 l n)/\ ∀(n_1:Int) (l_2:List Int),gE (v g) (f p l) n_1 l_2->True/\(decide (n_1<h
  p)=true->True/\(0<=n_1/\n_1<h p)/\E n_1<tl p/\ab 2 (f4 l_2 g n_1/\(0<=n_1/\n_1<h p)/\E n_1<tl p/\e1/\True/\gE (v g) (f p l) (q n_1) (ah
  c (tl p) (y n_1 l_2 g))/\(↑(tl p)-q n_1).toNat<(↑(tl p)-n_1).toNat/\(True/\r g/\ab 3 (t p/\True/\u p g/\n=n/\ab 35 (h p=h p/\sm (q n_1)/\f2)))
  /\d/\((c0 p/\H/\ ∀(i:Nat),i<tl p->f5 i n_1 l_2 g=decide ((ah c (tl p) (y n_1 l_2 g)).getD i 0<0)/\(c4 i n_1 l_2 g=(dz ((ah c (tl p) (y n_1 l_2
  g)).getD i 0)).length/\ ∀(i_1:Nat),i_1<c4 i n_1 l_2 g->bK (f6 i i_1 n_1 l_2 g) (z.enc ((dz ((ah c (tl p) (y n_1 l_2 g)).getD i 0)).getD i_1 0)))/\True)
  /\True)/\f3 g p l_1 l n))/\(decide (n_1<h p)=false->True/\(gE (v g) (F p g l_1) 0 (F p g l_1)/\(True/\r g/\ab 3 (t p/\True/\u p g/\n=n/\ab
  50 (o p g=o p g/\d8/\f7)))/\d/\f8 p l_2/\C/\J g/\d/\((M p g/\c1/\ ∀(i:Nat),i<qN p g->L l_1 i=decide ((F p g l_1).getD i 0<0)/\(D l_1 i=(dz
  ((F p g l_1).getD i 0)).length/\ ∀(i_1:Nat),i_1<D l_1 i->d9 l_1 i i_1=(dz ((F p g l_1).getD i 0)).getD i_1 0/\True)/\True)/\True)/\c2 l g n)/\ ∀(n_2
  :Int) (l_3:List Int),gE (v g) (F p g l_1) n_2 l_3->True/\(decide (n_2<o p g)=true->True/\e3 n_2 p g/\E n_2<qN p g/\ab 2 (f4 l_3 g n_2/\e3 n_2
  p g/\E n_2<qN p g/\e1/\True/\gE (v g) (F p g l_1) (q n_2) (ah c (qN p g) (y n_2 l_3 g))/\(↑(qN p g)-q n_2).toNat<(↑(qN p g)-n_2).toNat/\(True
  /\r g/\ab 3 (t p/\True/\u p g/\n=n/\ab 50 (o p g=o p g/\sm (q n_2)/\f7)))/\d/\f8 p l_2/\C/\J g/\d/\((M p g/\H/\ ∀(i:Nat),i<qN p g->f5
  i n_2 l_3 g=decide ((ah c (qN p g) (y n_2 l_3 g)).getD i 0<0)/\(c4 i n_2 l_3 g=(dz ((ah c (qN p g) (y n_2 l_3 g)).getD i 0)).length/\ ∀(i_1:Nat),i_1
  <c4 i n_2 l_3 g->bK (f6 i i_1 n_2 l_3 g) (z.enc ((dz ((ah c (qN p g) (y n_2 l_3 g)).getD i 0)).getD i_1 0)))/\True)/\True)/\c2 l g n))/\(decide (n_2<
  o p g)=false->e3 n p g/\E n<qN p g/\ab 2 ((iV g (zz (k l g n)) n (f p l_2) 0 (f p l_2)/\(True/\r g/\ab 3 (t p/\True/\u p g/\n=n/\ab 69 (e g
  =e g/\d8/\f9)))/\d/\e0 p l_2/\g1 g p l l_3 n)/\ ∀(n_3:Int) (l_4:List Int),iV g (zz (k l g n)) n (f p l_2) n_3 l_4->True/\(decide (n_3<e g)=true
  ->True/\g2 n n_3 p/\c6 n n_3<tl p/\(0<=n_3/\n_3<e g)/\ab 2 (((c.ak (zc (k l g n))/\c.ak (zc (g.getD n_3.toNat 0)))/\fit (zz (k l g n))/\fit (zz
  (g.getD n_3.toNat 0)))/\ab 2 (((c.ak (zc (c7 l_4 n n_3))/\c.ak (zc (e5 l g n n_3)))/\fit (zz (c7 l_4 n n_3))/\fit (zz (e5 l g n n_3)))/\g2 n n_3 p/\c6
  n n_3<tl p/\e1/\True/\iV g (zz (k l g n)) n (f p l_2) (q n_3) (d0 p l_4 l g n n_3)/\(e g-q n_3).toNat<(e g-n_3).toNat/\(True/\r g/\ab 3 (t p/\
  True/\u p g/\n=n/\ab 69 (e g=e g/\sm (q n_3)/\f9)))/\d/\((c0 p/\H/\ ∀(i:Nat),i<tl p->(if c8 i n n_3=true then decide (c9 l_4 l g n n_3<0)
  else L l_4 i)=decide ((d0 p l_4 l g n n_3).getD i 0<0)/\(g3 i n n_3 l_4 l g=(dz ((d0 p l_4 l g n n_3).getD i 0)).length/\ ∀(i_1:Nat),i_1<g3 i n n_3
  l_4 l g->bK (if c8 i n n_3=true then z.enc ((dz (c9 l_4 l g n n_3)).getD i_1 0)else e2 l_4 i i_1) (z.enc ((dz ((d0 p l_4 l g n n_3).getD i 0)).getD i_1 0)))
  /\True)/\True)/\g1 g p l l_3 n)))/\(decide (n_3<e g)=false->True/\oH p g (W (n-1)) (f p l_4) (d1 p g l_3 l n)/\(W (n-1)+1).toNat<(n+1).toNat
  /\(True/\r g/\ab 3 (t p/\True/\u p g/\sm (W (n-1))/\e8))/\d/\e0 p l_4/\C/\J g/\d/\((M p g/\H/\ ∀(i:Nat),i<qN p g->g0 i n l g l_3=decide
  ((d1 p g l_3 l n).getD i 0<0)/\(c5 i n l g l_3=(dz ((d1 p g l_3 l n).getD i 0)).length/\ ∀(i_1:Nat),i_1<c5 i n l g l_3->bK (e4 i i_1 n l g l_3) (z.enc
  ((dz ((d1 p g l_3 l n).getD i 0)).getD i_1 0)))/\True)/\True)/\True))))))/\(f1 n=false->(0+B p g<=qN p g/\ ∀(i:Nat),i<qN p g->P)/\((∀(i:Nat),
  i<B p g->P/\c.ak ((fun(j:Nat)=>aj.enc (l_1.getD j 0)) (0+i)))/\cr (d2 p g l_1))/\True/\(0+O p g l_1<=O p g l_1/\ ∀(i:Nat),i<O p g l_1
  ->P)/\(O p g l_1=(mz p g).length/\ ∀(i:Nat),i<O p g l_1->decide ((ag (d2 p g l_1)).getD (0+i) 0<0)=decide ((mz p g).getD i 0<0)/\((e6 p
  g l_1 i).length=(dz ((mz p g).getD i 0)).length/\ ∀(i_1:Nat),i_1<(e6 p g l_1 i).length->(e6 p g l_1 i).getD i_1 0=(dz ((mz p g).getD i 0)).getD i_1
  0/\True)/\True)/\True))))=Tm p g:=by kernel_rfl
theorem fo (c:Int) (l:List Int):(og c l).length=l.length:=by unfold og;simp
theorem vo (c:Int) (l:List Int) (i:Nat):(og c l).getD i 0=l.getD i 0*c:=by
 unfold og;rw [J0,J0,J5];cases l[i]?<;>simp
theorem A7 {c:Int} {r0 r:List Int} {j:Int} (h:gE c r0 j r):r.length=r0.length:=by
 unfold gE at h;obtain⟨h1,h2,rfl⟩:=h;rw [Y0,fo];simp;omega
theorem DW {c:Int} {r0 r:List Int} {j:Int} (h:gE c r0 j r):0<=j/\j<=r0.length:=by unfold gE at h;exact⟨h.1,h.2.1⟩
theorem N4 (c:Int) (r0:List Int):gE c r0 0 r0:=by
 unfold gE;refine⟨by omega,by omega,?_⟩;unfold og;simp
theorem vD {c:Int} {r0 r:List Int} {j:Int} (h:gE c r0 j r):r.getD j.toNat 0=r0.getD j.toNat 0:=by
 unfold gE at h;obtain⟨h1,h2,rfl⟩:=h;have hl:(og c (r0.take j.toNat)).length=j.toNat:=by rw [fo];simp;omega
 rw [J0,Jy (by omega),hl];simp [J0]
theorem yz {c:Int} {r0 r:List Int} {j:Int} (h:gE c r0 j r) (hj:j<r0.length):gE c r0 (j+1) (r.set j.toNat (r.getD j.toNat 0*c)):=by
 have hg:=vD h;unfold gE at h⊢;obtain⟨h1,h2,h3⟩:=h;refine⟨by omega,by omega,?_⟩;have hl:(og c (r0.take j.toNat)).length=j.toNat:=by rw [fo];simp;omega
 have hj':j.toNat<r0.length:=by omega
 rw [hg,h3,Qa hj',cG hl,show(j+1).toNat=j.toNat+1 by omega,X4,J0,J4 hj'];unfold og;simp only [K5,Y4,Jq,Xj,Qx,J8,Z2]
theorem Bb {c:Int} {r0 r:List Int} {j:Int} (h:gE c r0 j r) (hj:(r0.length:Int)<=j):r=og c r0:=by
 unfold gE at h;obtain⟨h1,h2,h3⟩:=h;rw [h3,show j.toNat=r0.length by omega];simp
theorem ng (r g:List Int) (t:Int) (i n:Nat):(tK r g t i n).length=r.length:=by unfold tK;simp
theorem lI (r g:List Int) (t:Int) (i n:Nat) {m:Nat} (h:m<r.length):(tK r g t i n).getD m 0=if i<=m/\m<i+n then r.getD m 0-t*g.getD (m-i) 0 else r.getD m 0:=by
 unfold tK;rw [J0,J5,Q9 h];rfl
theorem D9 {l m:List Int} (h:l.length=m.length) (hh: ∀i,i<l.length->l.getD i 0=m.getD i 0):l=m:=by
 refine List.ext_getElem h fun i h1 h2=> ?_
 have:=hh i h1;simpa [J0,J4 h1,J4 h2]using this
theorem RI (g:List Int) (t i:Int) (r0:List Int):iV g t i r0 0 r0:=by
 unfold iV;refine⟨by omega,by omega,?_⟩;refine D9 (by rw [ng]) fun m hm=> ?_
 rw [lI _ _ _ _ _ hm,if_neg (by omega)]
theorem vt {g r0 r:List Int} {t i j:Int} (h:iV g t i r0 j r):r.length=r0.length:=by
 unfold iV at h;rw [h.2.2,ng]
theorem L5 {g r0 r:List Int} {t i j:Int} (h:iV g t i r0 j r):0<=j/\j<=g.length:=by unfold iV at h;exact⟨h.1,h.2.1⟩
theorem BO {g r0 r:List Int} {t i j:Int} (h:iV g t i r0 j r) (hi:0<=i) (hl:i+j<r0.length):r.getD (i+j).toNat 0=r0.getD (i+j).toNat 0:=by
 unfold iV at h;obtain⟨h1,h2,rfl⟩:=h;rw [lI _ _ _ _ _ (by omega),if_neg (by omega)]
theorem Hv {g r0 r:List Int} {t i j:Int} (h:iV g t i r0 j r) (hi:0<=i) (hj:j<g.length) (hl:i+j<r0.length):iV g t i r0 (j+1) (r.set (i+j).toNat (r.getD (i+j).toNat 0-t*g.getD j.toNat 0)):=by
 have hg:=BO h hi hl;have hlen:=vt h;unfold iV at h⊢;obtain⟨h1,h2,h3⟩:=h;refine⟨by omega,by omega,?_⟩;rw [hg];refine D9 (by rw [ng,Ks,hlen]) fun m hm=> ?_
 rw [Ks,hlen]at hm;rw [lI _ _ _ _ _ hm,bo (by omega),h3,lI _ _ _ _ _ hm]
 by_cases e:m=(i+j).toNat
 . rw [if_pos e,if_pos (by omega),e,show(i+j).toNat-i.toNat=j.toNat by omega]
 . rw [if_neg e]
   by_cases c:i.toNat<=m/\m<i.toNat+j.toNat
   . rw [if_pos c,if_pos (by omega)]
   . rw [if_neg c,if_neg (by omega)]
theorem JR {g r0 r:List Int} {t i j:Int} (h:iV g t i r0 j r) (hj:(g.length:Int)<=j):r=tK r0 g t i.toNat g.length:=by
 unfold iV at h;obtain⟨h1,h2,h3⟩:=h;rw [h3,show j.toNat=g.length by omega]
theorem DF {l:List Int} {c:Int} {k m:Nat} (hl:bj k l) (hc:(c.natAbs:Int)<pw m) (i:Nat):((l.getD i 0*c).natAbs:Int)<=pw k*pw m:=bQ (bU hl i) hc
theorem Ib {l:List Int} {z:Int} (h:z∈l): ∃i,i<l.length/\z=l.getD i 0:=by
 obtain⟨i,hi,rfl⟩:=List.getElem_of_mem h;exact⟨i,hi,by rw [J0,J4 hi];rfl⟩
theorem nJ {g r q:List Int} {k m i:Nat} (hr:bj k r) (hq:bj k q) (hg:bj m g):bj (k+(m+1)) (ph g i (r,q)).1/\bj (k+(m+1)) (ph g i (r,q)).2:=by
 have hc:((aB g).natAbs:Int)<pw m:=by rw [aN];exact bU hg _
 have e:pw (k+(m+1))=4294967296*(pw k*pw m):=by rw [show k+(m+1)=(k+m)+1 by omega,bD,gG]
 have hp:0<pw k*pw m:=Je (aE _) (aE _);have ht:=bU hr (i+g.length-1);unfold ph;refine⟨jd (by rw [ng,fo];exact jm hr) fun z hz=> ?_,jd (by rw [Ks,fo];exact jm hq) fun z hz=> ?_⟩
 . obtain⟨j,hj,rfl⟩:=Ib hz;rw [ng]at hj;rw [lI _ _ _ _ _ hj,vo,e];dsimp only;have h1:=DF hr hc j;have h2:=bQ ht (bU hg (j-i));split<;>omega
 . obtain⟨j,hj,rfl⟩:=Ib hz;rw [Ks]at hj;rw [bo hj,e];dsimp only;split
   . have:pw k*1<=pw k*pw m:=Jt (by have:=aE m;omega) (by have:=aE k;omega);omega
   . rw [vo];have h1:=DF hq hc j;omega
theorem pK (g:List Int) (s:List Int×List Int):oY g 0 s=s:=by unfold oY;rfl
theorem pE (g:List Int) (n:Nat) (s:List Int×List Int):oY g (n+1) s=oY g n (ph g n s):=by rw [oY]
theorem E3 (g:List Int) (i:Nat) (r q:List Int):ph g i (r,q)=(tK (og (aB g) r) g (r.getD (i+g.length-1) 0) i g.length,(og (aB g) q).set i (r.getD (i+g.length-1) 0)):=by unfold ph;rfl
theorem S8 {c:Prop} [Decidable c] (x y:Int):bK (if c then [SV.int .u32 x]else [SV.int .u32 y]) (if c then [SV.int .u32 x]else [SV.int .u32 y]):=by
 split<;>exact⟨vX rfl,trivial⟩
theorem Sa (k n:Nat) (h:n<=1000):bj k (List.replicate n 0):=jd (by simpa using h) fun z hz=>by
 rw [List.eq_of_mem_replicate hz];simpa using aE k
theorem k312 :aH Tryz.prog Um:=av k315 hm Tryz.func312 (by kernel_rfl) (by kernel_rfl) Hs.ok (by kernel_rfl) (fun a=>aac a.1 a.2) fun a hp=>by
 have h:Tm a.1 a.2:=by
  rw [<-Oq];simp only [aA];obtain⟨p,g⟩:=a
  try dsimp only at hp
  unfold zB at hp;obtain⟨q1,q2,q3,q4,q5⟩:=hp;have ht:=cX p;have hq:qN p g=tl p-g.length+1:=by unfold qN;rfl
  have htl:=bn p;have hlead:((aB g).natAbs:Int)<pw 10000:=by rw [aN];exact bU q2 _
  simp [-List.getD_eq_getElem?_getD];have e1:W ((g.length:Int)-1)=g.length-1:=aG (by omega) (by omega);have e2:W (W ((tl p:Int)-g.length)+1)=(qN p g:Int):=by rw [aG (n:=(tl p:Int)-g.length) (by omega) (by omega),aG (by omega) (by omega)];omega
  have e3:g.getD ((g.length:Int)-1).toNat 0=aB g:=by rw [aN];congr 1;omega
  have e4:max (qN p g:Int) 0=qN p g:=by omega
  rw [htl,e1,e2,e3,e4,lE (p:=ae p) htl.symm,aG (n:=(qN p g:Int)-1) (by omega) (by omega)];refine⟨bu q1 (by omega),by omega,by omega,⟨?_,⟨rfl,wy _ _⟩,by omega,fun i hi=>Bg _ i (by omega)⟩,fun n r q hinv=>⟨fun hn=> ?_,fun hn=> ?_⟩⟩
  . unfold oH;exact⟨by omega,by omega,htl,by simp,an (fZ q1) (by omega),Sa _ _ (by omega),by rw [show((qN p g:Int)-1+1).toNat=qN p g by omega]⟩
  . unfold oH at hinv;obtain⟨i1,i2,i3,i4,i5,i6,i7⟩:=hinv;have hK:10000+10001*((qN p g:Int)-1-n).toNat<=80007:=by omega
    rw [lE (p:=r) i3.symm,lE (p:=q) i4.symm,aG (n:=n+g.length) (by omega) (by omega),aG (n:=n+g.length-1) (by omega) (by omega),show(n+(g.length:Int)-1).toNat=n.toNat+g.length-1 by omega];have hr:=an i5 hK;have hqq:=an i6 hK;have hbt:=bU hr (n.toNat+g.length-1);refine⟨by omega,by omega,⟨N4 _ _,wy _ _⟩,fun j r1 h1=>⟨fun hj=> ?_,fun hj=> ?_⟩⟩
    . have l1:=A7 h1;have nn:=DW h1;rw [aG (n:=j+1) (by omega) (by omega),uK (l:=r1) (by omega)];exact⟨by omega,by omega,⟨by rw [vD h1];exact bz (bU hr _) (by omega),bz hlead (by omega)⟩,by omega,by omega,yz h1 (by omega),by omega,jK rfl (by omega)⟩
    . have er:=Bb h1 (by omega);subst er;refine⟨⟨N4 _ _,wy _ _⟩,fun j2 r2 h2=>⟨fun hj2=> ?_,fun hj2=> ?_⟩⟩
      . have l1:=A7 h2;have nn:=DW h2;rw [aG (n:=j2+1) (by omega) (by omega),uK (l:=r2) (by omega)];exact⟨by omega,by omega,⟨by rw [vD h2];exact bz (bU hqq _) (by omega),bz hlead (by omega)⟩,by omega,by omega,yz h2 (by omega),by omega,jK rfl (by omega)⟩
      . have eq:=Bb h2 (by omega);subst eq;have lr:(og (aB g) r).length=tl p:=by rw [fo];exact i3
        have lq:(og (aB g) q).length=qN p g:=by rw [fo];exact i4
        rw [lE (p:=og (aB g) r) lr.symm];refine⟨by omega,by omega,⟨RI _ _ _ _,wy _ _,fun _ _ _ _=>S8 _ _⟩,fun m r3 h3=>⟨fun hm=> ?_,fun hm=> ?_⟩⟩
        . have l3:=vt h3;have nn:=L5 h3;have hst:=Hv h3 hn hm (by omega);have e:=BO h3 hn (by omega);have b1:=DF hr hlead (n+m).toNat;have b2:=bQ hbt (bU q2 m.toNat);rw [<-gG]at b1 b2;have e9:pw (80007+10000+1)=4294967296*pw (80007+10000):=bD _;have e8:=aE (80007+10000);rw [aG (n:=n+m) (by omega) (by omega),aG (n:=m+1) (by omega) (by omega),uK (l:=r3) (by omega)];refine⟨by omega,by omega,by omega,⟨bz hbt (by omega),cP (bu q2 (by omega)) _⟩,⟨?_,?_⟩,by omega,by omega,hst,by omega,jK rfl (by omega),fun _ _ _ _=>S8 _ _⟩
          . rw [e,vo];exact bz (k:=80007+10000+1) (by rw [e9];exact Zh b1 (by omega)) (by omega)
          . exact bz (k:=80007+10000+1) (by rw [e9];exact Zh b2 (by omega)) (by omega)
        . have er:=JR h3 hm;have l3:=vt h3;rw [aG (n:=n-1) (by omega) (by omega),lE (p:=r3) (by omega),uK (l:=og (aB g) q) lq.symm];refine⟨?_,by omega,wy _ _,jK rfl lq.symm⟩;have hs:=nJ (i:=n.toNat) i5 i6 q2;rw [E3,<-er]at hs;unfold oH;refine⟨by omega,by omega,by omega,by rw [Ks];exact lq,an hs.1 (by omega),an hs.2 (by omega),?_⟩;rw [<-i7,show(n+1).toNat=n.toNat+1 by omega,pE,E3,<-er,show(n-1+1).toNat=n.toNat by omega]
  . unfold oH at hinv;obtain⟨i1,i2,i3,i4,i5,i6,i7⟩:=hinv;rw [show(n+1).toNat=0 by omega,pK]at i7;rw [K7,lE (p:=q) i4.symm];have e:mz p g=ag q:=by unfold mz;rw [<-i7]
    exact⟨by omega,bu i6 (by omega),nr e.symm⟩
 exact h
end Go.Proofs.Big
namespace Go.Proofs.Big
open Go Go.Sx Go.Proofs
variable [bW]
attribute [local irreducible] lm nv tl dg dz
def eZ (p:List Int):List Int:=iN (ag p)
def bE (p:List Int):List Int:=
 if(eZ p).length<2 then eZ p
 else if(eU (eZ p) (aX (eZ p))).length<2 then eZ p
 else mz (eZ p) (eU (eZ p) (aX (eZ p)))
def gp (p:List Int):Prop:=bj 90 p/\p.length<=3
attribute [irreducible] eZ bE gp
def c261 :bB:=fl sP.dec (fun a=>gp a) (fun a=>pS (bE a))
def Uq :List (Nat×bB):=(261,c261)::Um
def Tk (p:List Int):Prop:=fQ Um Tryz.f261 [] [pS p] (pS (bE p))
theorem O8 (p:List Int):(
 let e:=true=true
 let c:=aj
 let j:=fun(y:List Int)=>(ag (eR y)).length
 let o:=fun(y:List Int)=>iN (uR (ag (eR y)))
 let k:=fun(y:List Int)=>(o y).length
 let r:=fun(y:List Int)=>decide (↑(k y)<(2:Int))
 let f:=fun(y:List Int) (m:Nat)=>(o y).getD m 0
 let s:=fun(y:List Int) (m:Nat)=>decide ((bE y).getD m 0<0)
 let t:=fun(y:List Int) (m:Nat)=>(dz ((bE y).getD m 0)).length
 let u:=fun(y:List Int) (m x1:Nat)=>(dz ((bE y).getD m 0)).getD x1 0
 let v:=fun(y:List Int)=>ab 2 ((k y=(bE y).length/\ ∀(i:Nat),i<k y->decide (f y i<0)=s y i/\((dz (f y i)).length=t y i/\ ∀(i_1:Nat),
  i_1<(dz (f y i)).length->(dz (f y i)).getD i_1 0=u y i i_1/\True)/\True)/\True)
 let q:=fun(y:List Int)=> ∀(i:Nat),i<k y->e/\c.ak (c.enc (f y i))
 let d:=fun(y:List Int)=>eR (o y)
 let g:=fun(y:List Int)=>eU (d y) (eR (aX (d y)))
 let w:=fun(y:List Int)=>decide (↑(g y).length<(2:Int))
 let h:=fun(y:List Int)=>mz (d y) (eR (g y))
 let x:=fun(y:List Int) (m:Nat)=>(dz ((h y).getD m 0)).length
 ab 2 (((∀(i:Nat),i<p.length->e/\c.ak (c.enc (p.getD i 0)))/\cr (eR p))/\(0+j p<=j p/\ ∀(i:Nat),i<j p->e)/\((∀(i:Nat),i<j p->e/\
  c.ak ((fun(i:Nat)=>aj.enc ((ag (eR p)).getD i 0)) (0+i)))/\cr (uR (ag (eR p))))/\ab 2 ((r p=true->v p)/\(r p=false->True/\(q p
  /\bj 100000 (d p))/\ab 2 (((q p/\ ∀(i:Nat),i<(aX (d p)).length->e/\c.ak (c.enc ((aX (d p)).getD i 0)))/\vR (d p) (eR (aX (d p))))/\ab
  2 ((w p=true->v p)/\(w p=false->ab 2 (((q p/\ ∀(i:Nat),i<(g p).length->e/\c.ak (c.enc ((g p).getD i 0)))/\zB (d p) (eR (g p)))/\ab 2 (((h
  p).length=(bE p).length/\ ∀(i:Nat),i<(h p).length->decide ((h p).getD i 0<0)=s p i/\(x p i=t p i/\ ∀(i_1:Nat),i_1<x p i->(dz ((h p).getD
  i 0)).getD i_1 0=u p i i_1/\True)/\True)/\True)))))))))=Tk p:=by kernel_rfl
theorem iH (p:List Int):(iN p).length=p.length:=by
 unfold iN;split
 . exact jz p
 . rfl
theorem rf {k:Nat} {p:List Int} (h:bj k p):bj k (iN p):=by
 unfold iN;split
 . exact Df h
 . exact h
theorem yU {k:Nat} {p:List Int} (h:bj k p):bj k (eZ p):=by unfold eZ;exact rf (bP h)
theorem Dw (p:List Int):(eZ p).length<=p.length:=by unfold eZ;rw [iH];exact cN p
theorem xl : ∀{n:Nat} {a b:List Int},b.length<=a.length->a.length<=3->ae b=b->b.length<=n->bj (kk (3-b.length)) a->bj (kk (3-b.length)) b->bj 6463 (lT n a b)/\(lT n a b).length<=a.length
 |0,a,b,h1,h2,h3,h4,h5,h6=>by
  rw [mG];exact⟨an h5 (Em (by omega)).2,J1 _⟩
 |n+1,a,b,h1,h2,h3,h4,h5,h6=>by
  rw [jb];split
  . rename_i hb;have hne:=me h3 hb;obtain⟨r1,r2,r3⟩:=jf h5 h6 h2 hne;have hs:=JC (3-b.length);have hm:=IL (show 3-b.length+1<=3-(dh a b).length by omega);obtain⟨c1,c2⟩:=xl (n:=n) (a:=b) (b:=dh a b) (by omega) (by omega) r3 (by omega) (an h6 (by omega)) (an r1 (by omega));exact⟨c1,by omega⟩
  . exact⟨an h5 (Em (by omega)).2,J1 _⟩
theorem H0 {p q:List Int} (hp:bj 100 p) (hq:bj 100 q) (h3:p.length<=3) (hl:(ag q).length<=(ag p).length):bj 6463 (eU p q)/\(eU p q).length<=p.length:=by
 have l1:=cN p;have hk:=Em (show 3-(ag q).length<=3 by omega);obtain⟨c1,c2⟩:=xl hl (by omega) (dP q) (J1 _) (an (bP hp) hk.1) (an (bP hq) hk.1);unfold eU;exact⟨rf c1,by rw [iH];omega⟩
theorem LY (p:List Int):tl (eZ p)=(eZ p).length:=by
 have h:ae (eZ p)=eZ p:=by
  unfold eZ
  by_cases h:ag p=[]
  . rw [h];exact iP (.inl (Kr (by rw [iH];rfl)))
  . refine iP (.inr ?_);have hl:=ic h;rw [aN]at hl⊢;rw [iH];unfold iN;split
    . unfold dH;rw [J0,J5];rw [J0]at hl;cases e:(ag p)[(ag p).length-1]? with
      |none=>rw [e]at hl;exact absurd rfl hl
      |some z=>rw [e]at hl;simp only [K5,K4]at hl⊢;omega
    . exact hl
 rw [<-bn,h]
theorem k261 :aH Tryz.prog Uq:=av k312 hm Tryz.func261 (by kernel_rfl) (by kernel_rfl) sP.ok (by kernel_rfl) (fun _=>[]) fun a hp=>by
 have h:Tk a:=by
  rw [<-O8];simp only [aA];generalize a=p at*
  try dsimp only at hp
  unfold gp at hp;obtain⟨q1,q2⟩:=hp;have hs:=yU q1;have hl:=Dw p;have ht:=LY p;have e0:iN (ag p)=eZ p:=by unfold eZ;rfl
  simp [-List.getD_eq_getElem?_getD,e0];generalize hP:eZ p=P at*
  have hf:bE p=if P.length<2 then P else if(eU P (aX P)).length<2 then P else mz P (eU P (aX P)):=by unfold bE;rw [hP]
  have dl:(aX P).length<=P.length/\bj 100 (aX P):=by
   have h0:=Cr hs (n:=tl P-1) (by omega);unfold aX;refine⟨?_,an (fZ h0) (by omega)⟩;rw [bn];have h1:=cX (lW P (tl P-1));have h2:(lW P (tl P-1)).length=tl P-1:=by unfold lW;simp
   omega
  refine⟨bu q1 (by omega),bu (bP q1) (by omega),fun h=> ?_,fun h=>⟨an hs (by omega),?_,fun h2=> ?_,fun h2=>⟨?_,?_⟩⟩⟩
  . rw [if_pos (by omega)]at hf;exact nr hf.symm
  . unfold vR;exact⟨an hs (by omega),dl.2,by omega,by omega⟩
  . rw [if_neg (by omega),if_pos (by omega)]at hf;exact nr hf.symm
  . have hpr:(ag (aX P)).length<=(ag P).length:=by
     have:=cN (aX P);rw [fw P,bn];omega
    obtain⟨c1,c2⟩:=H0 (an hs (by omega)) dl.2 (by omega) hpr;unfold zB;exact⟨an hs (by omega),an c1 (by omega),by omega,by omega,by omega⟩
  . rw [if_neg (by omega),if_neg (by omega)]at hf;exact nr hf.symm
 exact h
def PX :Nat->Nat
 |0=>1
 |n+1=>PX n*(n+1)
def ba (n:Int):Int:=(PX n.toNat:Int)
def qx (n k:Int):Int:=(ba n).tdiv (ba k*ba (n-k))
def sII :=iR.cons (DN .i64) sI
def sH (n i f:Int):Prop:=2<=i/\i<=max n 1+1/\f=ba (i-1)
attribute [irreducible] ba qx sH
def c387 :bB:=fl sI.dec (fun a=>0<=a/\a<=8) (fun a=>iS (ba a))
def UQ :List (Nat×bB):=(387,c387)::Uq
def Zp (n:Int):List kM:=[⟨.unit, .list [.int .i64 (.tm 4), .int .i64 (.tm 3)],fun _ (x:Int×Int)=>sH n x.1 x.2,fun _ (x:Int×Int)=>(n+1-x.1).toNat⟩]
def T6 (n:Int):Prop:=fQ Uq Tryz.f387 (Zp n) [iS n] (iS (ba n))
def c386 :bB:=fl sII.dec (fun a=>0<=a.2/\a.2<=a.1/\a.1<=8) (fun a=>iS (qx a.1 a.2))
def Ve :List (Nat×bB):=(386,c386)::UQ
def TW (n:Int) (k:Int):Prop:=fQ UQ Tryz.f386 [] [iS n,iS k] (iS (qx n k))
theorem LB (n:Int):(
 let c:=ab 9 True
 ab (3:Nat) ((sH n (2:Int) (1:Int)/\(n=n/\ab (2:Nat) (sm (1:Int)/\sm (2:Int)/\c))/\True)/\ ∀(n_1 n_2:Int),sH n n_1 n_2->True/\(decide
  (n_1<=n)=true->ab (2:Nat) (sH n (W (n_1+(1:Int))) (W (n_2*n_1))/\(n+(1:Int)-W (n_1+(1:Int))).toNat<(n+(1:Int)-n_1).toNat/\(n
  =n/\ab (2:Nat) (sm (W (n_2*n_1))/\sm (W (n_1+(1:Int)))/\c))/\True))/\(decide (n_1<=n)=false->ab (2:Nat) (n_2=ba n/\True))))=T6 n:=by kernel_rfl
theorem Mt (n:Int) (k:Int):(
 let c:=fun(x:Int)=>True/\0<=x/\x<=8
 ab 2 (c n/\True/\c k/\True/\(True/\0<=W (n-k)/\W (n-k)<=8)/\W (ba k*ba (W (n-k)))≠0/\ab 2 (W ((ba n).tdiv (W (ba k*ba (W (n-k)))))
  =qx n k/\True)))=TW n k:=by kernel_rfl
theorem QA {n:Nat} (h:n<=9):1<=PX n/\PX n<=362880:=by
 match n,h with
 |0,_=>decide
 |1,_=>decide
 |2,_=>decide
 |3,_=>decide
 |4,_=>decide
 |5,_=>decide
 |6,_=>decide
 |7,_=>decide
 |8,_=>decide
 |9,_=>decide
theorem wO {n:Int} (h:n<=9):1<=ba n/\ba n<=362880:=by
 unfold ba;have:=QA (n:=n.toNat) (by omega);omega
theorem k387 :aH Tryz.prog UQ:=av k261 hm Tryz.func387 (by kernel_rfl) (by kernel_rfl) sI.ok (by kernel_rfl) (fun a=>Zp a) fun a hp=>by
 have h:T6 a:=by
  rw [<-LB];simp only [aA];generalize a=n at*
  try dsimp only at hp
  simp;refine⟨by unfold sH;exact⟨by omega,by omega,by unfold ba;rfl⟩,fun i f hinv=> ?_⟩;unfold sH at hinv⊢;obtain⟨i1,i2,i3⟩:=hinv;refine⟨fun hi=> ?_,fun hi=> ?_⟩
  . have hb:=wO (n:=i-1) (by omega);have hm:f*i<=362880*9:=by rw [i3];exact Qb hb.2 (by omega) (by omega) (by omega)
    have hm0:0<=f*i:=by rw [i3];exact Ja (by omega) (by omega)
    rw [aG (n:=i+1) (by omega) (by omega),aG (n:=f*i) (by omega) (by omega)];refine⟨⟨by omega,by omega,?_⟩,by omega⟩;rw [i3];unfold ba;obtain⟨m,hm⟩: ∃m,(i-1).toNat=m:=⟨_,rfl⟩;rw [show(i+1-1).toNat=m+1 by omega,hm,PX,show i=(m:Int)+1 by omega]
    push_cast
    rfl
  . have:ba (i-1)=ba n:=by
     unfold ba
     by_cases h:1<=n
     . congr 2;omega
     . rw [show(i-1).toNat=1 by omega,show n.toNat=0 by omega];rfl
    rw [i3,this]
 exact h
theorem k386 :aH Tryz.prog Ve:=av k387 hm Tryz.func386 (by kernel_rfl) (by kernel_rfl) sII.ok (by kernel_rfl) (fun _=>[]) fun a hp=>by
 have h:TW a.1 a.2:=by
  rw [<-Mt];simp only [aA];obtain⟨n,k⟩:=a
  try dsimp only at hp
  simp;obtain⟨h1,h2,h3⟩:=hp;rw [aG (n:=n-k) (by omega) (by omega)];have b1:=wO (n:=n) (by omega);have b2:=wO (n:=k) (by omega);have b3:=wO (n:=n-k) (by omega);have m1:ba k*ba (n-k)<=362880*362880:=Qb b2.2 b3.2 (by omega) (by omega);have m0:1*1<=ba k*ba (n-k):=Qb b2.1 b3.1 (by omega) (by omega);rw [aG (n:=ba k*ba (n-k)) (by omega) (by omega)];have hd:(ba n).tdiv (ba k*ba (n-k))<=362880/\0<=(ba n).tdiv (ba k*ba (n-k)):=by
   rw [Ky (by omega)];have q1:=Z3 (a:=ba n) (ba k*ba (n-k)) (by omega);have q2:=Kb (a:=ba n) (b:=ba k*ba (n-k)) (by omega) (by omega);omega
  refine⟨by omega,by omega,by omega,by omega,?_⟩;rw [aG (by omega) (by omega)];unfold qx;rfl
 exact h
def gj :List Int->Int
 |[]=>0
 |x::r=>if x=0 then gj r else aW x
def tC (p:List Int) (i:Int):Prop:=0<=i/\i<=p.length/\gj (p.drop i.toNat)=gj p
attribute [irreducible] gj tC
def c351 :bB:=fl sP.dec (fun a=>cr a) (fun a=>iS (gj a))
def T351 :List (Nat×bB):=(351,c351)::Ve
def a351 (p:List Int):List kM:=[⟨.unit, .int .i64 (.tm 8),fun _ (i:Int)=>tC p i,fun _ (i:Int)=>(p.length-i).toNat⟩]
def TB (p:List Int):Prop:=fQ Ve Tryz.f351 (a351 p) [pS p] (iS (gj p))
theorem Nh (p:List Int):(
 let d:=fun(x:List Int)=>x.length=x.length/\ ∀(i:Nat),i<x.length->pW (x.getD i 0)
 let c:=fun(x:List Int)=>(↑x.length:Int)
 let e:=ab 9 True
 let f:=fun(x:List Int) (y:Int)=>aW (zz (x.getD y.toNat 0))
 let g:=fun(x:List Int) (y:Int)=>f x y !=0
 ab (2:Nat) ((tC p (0:Int)/\ab (6:Nat) (d p/\c p=c p/\sm (0:Int)/\e)/\True)/\ ∀(n:Int),tC p n->True/\(decide (n<c p)=true->((0
  :Int)<=n/\n<c p)/\ab (2:Nat) ((aj.ak (zc (p.getD n.toNat (0:Int)))/\fit (zz (p.getD n.toNat (0:Int))))/\ab (2:Nat) ((g p n=true->ab (2
  :Nat) (f p n=gj p/\True))/\(g p n=false->True/\tC p (W (n+(1:Int)))/\(c p-W (n+(1:Int))).toNat<(c p-n).toNat/\ab (6:Nat) (d p/\
  c p=c p/\sm (W (n+(1:Int)))/\e)/\True))))/\(decide (n<c p)=false->ab (2:Nat) ((0:Int)=gj p/\True))))=TB p:=by kernel_rfl
theorem Fl :gj []=0:=by unfold gj;rfl
theorem qY (x:Int) (r:List Int):gj (x::r)=if x=0 then gj r else aW x:=by rw [gj]
theorem KW {p:List Int} {i:Nat} (h:i<p.length):gj (p.drop i)=if p.getD i 0=0 then gj (p.drop (i+1))else aW (p.getD i 0):=by
 rw [Qa h,qY,J0,J4 h];rfl
theorem aab :aH Tryz.prog T351:=av k386 hm Tryz.func351 (by kernel_rfl) (by kernel_rfl) sP.ok (by kernel_rfl) (fun a=>a351 a) fun a hp=>by
 have h:TB a:=by
  rw [<-Nh];simp only [aA];generalize a=p at*
  try dsimp only at hp
  have hl:=jC hp;simp [-List.getD_eq_getElem?_getD,hp,cP hp];refine⟨by unfold tC;exact⟨by omega,by omega,rfl⟩,fun i hinv=> ?_⟩;unfold tC at hinv⊢;obtain⟨i1,i2,i3⟩:=hinv;refine⟨fun hi=> ?_,fun hi=> ?_⟩
  . have hst:=KW (p:=p) (i:=i.toNat) (by omega);rw [i3]at hst;rw [aG (n:=i+1) (by omega) (by omega)];refine⟨⟨i1,hi⟩,fun h=> ?_,fun h=> ?_⟩
    . rw [hst,if_neg (fun e=>h (ju.2 e))]
    . rw [if_pos (ju.1 h)]at hst;exact⟨⟨by omega,by omega,by rw [hst,show(i+1).toNat=i.toNat+1 by omega]⟩,by omega⟩
  . rw [<-i3,show i.toNat=p.length by omega,List.drop_length,Fl]
 exact h
def RZ (p:List Int) (n i:Int):Nat->Int
 |0=>0
 |k+1=>RZ p n i k+p.getD k 0*(qx i k*(ba k*ba (n-k)))
def wJ (p:List Int) (i:Nat):Int:=RZ p (p.length-1) i (i+1)
def vj (p:List Int):Nat->Bool
 |0=>true
 |m+1=>vj p m&&decide (wJ p m<=0)
def Fb (p:List Int):Nat->Bool
 |0=>true
 |m+1=>Fb p m&&decide (0<=wJ p m)
def eY (p:List Int):Bool:=vj p p.length
def eF (p:List Int):Bool:=Fb p p.length&& !vj p p.length
def eO (p:List Int):Prop:=bj 100 p/\p.length<=3
def mE (p:List Int) (i:Int) (x y:Bool):Prop:=0<=i/\i<=p.length/\x=vj p i.toNat/\y=Fb p i.toNat
def lY (p:List Int) (i k b:Int):Prop:=0<=k/\k<=i+1/\b=RZ p (p.length-1) i k.toNat
attribute [irreducible] RZ wJ vj Fb eY eF eO mE lY
def c350 :bB:=fl sP.dec (fun a=>eO a) (fun a=> .bp [.bool (eY a), .bool (eF a)])
def Vm :List (Nat×bB):=(350,c350)::T351
def YK (p:List Int):List kM:=[⟨.unit, .list [.int .i64 (.tm 5), .bool (.tm 2), .bool (.tm 3)],fun _ (x:Int×Bool×Bool)=>mE p x.1 x.2.1 x.2.2,fun _ (x:Int×Bool×Bool)=>(p.length-x.1).toNat⟩,⟨.list [.int .i64 (.tm 5), .bool (.tm 2), .bool (.tm 3)], .list [.int .i64 (.tm 7), .N2 aj 0 0],fun(y:Int×Bool×Bool) (x:Int×Int)=>lY p y.1 x.1 x.2,fun(y:Int×Bool×Bool) (x:Int×Int)=>(y.1+1-x.1).toNat⟩]
def Si (p:List Int):Prop:=fQ T351 Tryz.f350 (YK p) [pS p] (.bp [.bool (eY p), .bool (eF p)])
theorem Mx (p:List Int):(
 let e:=fun(m:List Int)=>m.length=m.length/\ ∀(i:Nat),i<m.length->pW (m.getD i 0)
 let j:=fun(m:List Int)=>(↑m.length:Int)
 let f:=fun(m:List Int)=>W (j m-1)
 let g:=fun(m:List Int)=>sm (f m)
 let v:=sm (0:Int)
 let r:=ab 46 True
 let w:=ab 44 True
 let k:=List.map ar.shape ([ar.s SV.ff]++([ar.s SV.aq]++[]))
 let t:=false=false
 let o:=fun(m s:Int) (x1:List Int)=>W (qx m s*W (ba s*ba (W (f x1-s))))
 let h:=aj
 let d:=fun(m:List Int) (s x1:Int)=>zz (m.getD s.toNat 0)*zz (o x1 s m)
 let c:=fun(m:Int)=>W (m+1)
 let q:=fun(m s x1:Int) (y1:List Int)=>zz (zz m+zz (d y1 s x1))
 let x:=fun(m:Int)=>aW (zz m)==1
 let u:=fun(m:List Int) (s:Int)=>(j m-c s).toNat<(j m-s).toNat
 let y:=fun(m:Bool) (s:List Int) (x1:Int)=>m=m/\g s/\sm (c x1)/\r
 let z:=fun(m:Int)=>aW (zz m)== -1
 ab 4 ((mE p 0 true true/\(e p/\True/\true=true/\true=true/\g p/\v/\r)/\True)/\ ∀(n:Int) (n_1 n_2:Bool),mE p n n_1 n_2->True/\(decide
  (n<=f p)=true->ab 2 ((lY p n 0 0/\(e p/\True/\n_1=n_1/\n_2=n_2/\g p/\n=n/\True/\v/\w)/\k=k/\(t/\sm 0/\True)/\True)/\ ∀(n_3 a:Int),
  lY p n n_3 a->True/\(decide (n_3<=n)=true->(0<=n_3/\n_3<j p)/\ab 2 (((True/\True)/\0<=n_3/\n_3<=n/\n<=8)/\True/\(True/\0<=n_3/\n_3<=
  8)/\True/\(True/\0<=W (f p-n_3)/\W (f p-n_3)<=8)/\True/\(True/\fN (o n n_3 p))/\ab 2 (((h.ak (zc (p.getD n_3.toNat 0))/\h.ak (zc (o n n_3
  p)))/\fit (zz (p.getD n_3.toNat 0))/\fit (zz (o n n_3 p)))/\ab 2 (((h.ak (zc a)/\h.ak (zc (d p n_3 n)))/\fit (zz a)/\fit (zz (d p n_3 n)))/\ru true
  /\True/\lY p n (c n_3) (q a n_3 n p)/\(n+1-c n_3).toNat<(n+1-n_3).toNat/\(e p/\True/\n_1=n_1/\n_2=n_2/\g p/\n=n/\True/\sm (c n_3)
  /\w)/\k=k/\(decide (zz a+zz (d p n_3 n)<0)=decide (q a n_3 n p<0)/\((dz (zz a+zz (d p n_3 n))).length=(dz (q a n_3 n p)).length/\ ∀(i:Nat),i
  <(dz (zz a+zz (d p n_3 n))).length->(dz (zz a+zz (d p n_3 n))).getD i 0=(dz (q a n_3 n p)).getD i 0/\True)/\True)/\True))))/\(decide (n_3<=n)=false
  ->True/\(h.ak (zc a)/\fit (zz a))/\ab 2 ((x a=true->ab 2 (mE p (c n) false n_2/\u p n/\(e p/\True/\t/\y n_2 p n)/\True))/\(x a=false->True
  /\(z a=true->ab 2 (mE p (c n) n_1 false/\u p n/\(e p/\True/\n_1=n_1/\t/\g p/\sm (c n)/\r)/\True))/\(z a=false->True/\mE p (c n) n_1 n_2
  /\u p n/\(e p/\True/\n_1=n_1/\y n_2 p n)/\True))))))/\(decide (n<=f p)=false->(n_2=true->ab 3 ((n_1=eY p/\(!n_1)=eF p/\True)/\True))/\
  (n_2=false->ab 3 ((n_1=eY p/\eF p=false/\True)/\True)))))=Si p:=by kernel_rfl
theorem Bh (p:List Int) (n i:Int):RZ p n i 0=0:=by unfold RZ;rfl
theorem tZ (p:List Int) (n i:Int) (k:Nat):RZ p n i (k+1)=RZ p n i k+p.getD k 0*(qx i k*(ba k*ba (n-k))):=by rw [RZ]
theorem qe (p:List Int) (i:Nat):wJ p i=RZ p (p.length-1) i (i+1):=by unfold wJ;rfl
theorem xu (p:List Int) (m:Nat):vj p (m+1)=(vj p m&&decide (wJ p m<=0)):=by rw [vj]
theorem yE (p:List Int) (m:Nat):Fb p (m+1)=(Fb p m&&decide (0<=wJ p m)):=by rw [Fb]
theorem CN (p:List Int):vj p 0=true:=by unfold vj;rfl
theorem HL (p:List Int):Fb p 0=true:=by unfold Fb;rfl
theorem wgt {n i k:Int} (hk:0<=k) (hki:k<=i) (hi:i<=n) (hn:n<=2):0<=ba k*ba (n-k)/\ba k*ba (n-k)<=4/\0<=qx i k*(ba k*ba (n-k))/\qx i k*(ba k*ba (n-k))<=8:=by
 have h3:n=0\/n=1\/n=2:=by omega
 have hk3:k=0\/k=1\/k=2:=by omega
 have hi3:i=0\/i=1\/i=2:=by omega
 unfold qx ba;rcases h3 with rfl|rfl|rfl<;>rcases hi3 with rfl|rfl|rfl<;>rcases hk3 with rfl|rfl|rfl<;>first|omega|decide
theorem Mw {p:List Int} (h:bj 100 p) {n i:Int} (hi:i<=n) (hn:n<=2): ∀k:Nat,(k:Int)<=i+1->((RZ p n i k).natAbs:Int)<=k*(8*pw 100)
 |0,_=>by rw [Bh];simp
 |k+1,hk=>by
  have ih:=Mw h hi hn k (by omega);obtain⟨w1,w2,w3,w4⟩:=wgt (n:=n) (i:=i) (k:=k) (by omega) (by omega) hi hn;rw [tZ];have hx:=bU h k;generalize p.getD k 0=x at*
  generalize qx i k*(ba k*ba (n-k))=w at*
  have:=aE 100;have hm:((x*w).natAbs:Int)<=8*pw 100:=by
   rw [Int.natAbs_mul]
   push_cast
   have:(x.natAbs:Int)*(w.natAbs:Int)<=pw 100*8:=Qb (by omega) (by omega) (by omega) (by omega);omega
  have ha:=Int.natAbs_add_le (RZ p n i k) (x*w);rw [show((k+1:Nat):Int)*(8*pw 100)=k*(8*pw 100)+8*pw 100 by push_cast;rw [Qo,K8]];omega
theorem IM {p:List Int} (h:bj 100 p) {n i:Int} (hi:i<=n) (hn:n<=2) {k:Nat} (hk:(k:Int)<=i+1):fit (RZ p n i k):=by
 have h1:=Mw h hi hn k hk;have h2:(k:Int)*(8*pw 100)<=3*(8*pw 100):=Jh (by omega) (by have:=aE 100;omega);have h3:pw 101=4294967296*pw 100:=bD 100;have h4:=aE 100;exact bz (k:=101) (by omega) (by omega)
theorem QL {z:Int}:aW z=1↔0<z:=by unfold aW;split<;>(try split)<;>omega
theorem N3 {z:Int}:aW z= -1↔z<0:=by unfold aW;split<;>(try split)<;>omega
theorem k350 :aH Tryz.prog Vm:=av aab hm Tryz.func350 (by kernel_rfl) (by kernel_rfl) sP.ok (by kernel_rfl) (fun a=>YK a) fun a hp=>by
 have h:Si a:=by
  rw [<-Mx];simp only [aA];generalize a=p at*
  try dsimp only at hp
  unfold eO at hp;obtain⟨q1,q2⟩:=hp;simp [-List.getD_eq_getElem?_getD,-Bool.forall_bool];refine⟨by unfold mE;exact⟨by omega,by omega,by rw [Ql,CN],by rw [Ql,HL]⟩,fun i x y hinv=> ?_⟩;unfold mE at hinv;obtain⟨i1,i2,i3,i4⟩:=hinv;rw [aG (n:=(p.length:Int)-1) (by omega) (by omega)];refine⟨fun hi=>⟨by unfold lY;exact⟨by omega,by omega,by rw [Ql,Bh]⟩,fun k b hinv=> ?_⟩,fun hi=> ?_⟩
  . unfold lY at hinv;obtain⟨k1,k2,k3⟩:=hinv;have W1:W ((p.length:Int)-1-k)=(p.length:Int)-1-k\/i<k:=by
     rcases(show k<=i\/i<k by omega)with h|h
     . exact .inl (aG (by omega) (by omega))
     . exact .inr h
    refine⟨fun hk=> ?_,fun hk=> ?_⟩
    . rw [W1.resolve_right (by omega)];obtain⟨w1,w2,w3,w4⟩:=wgt (n:=(p.length:Int)-1) (i:=i) (k:=k) (by omega) (by omega) (by omega) (by omega);have hs:=tZ p ((p.length:Int)-1) i k.toNat;rw [Int.toNat_of_nonneg k1]at hs;rw [aG (n:=ba k*ba ((p.length:Int)-1-k)) (by omega) (by omega),aG (n:=qx i k*(ba k*ba ((p.length:Int)-1-k))) (by omega) (by omega),aG (n:=k+1) (by omega) (by omega)];have hx:=bU q1 k.toNat
      have hb:=IM q1 (n:=(p.length:Int)-1) (i:=i) (by omega) (by omega) (k:=k.toNat) (by omega);rw [<-k3]at hb hs;have h4:=aE 100;have h3:pw 101=4294967296*pw 100:=bD 100;generalize hw:qx i k*(ba k*ba ((p.length:Int)-1-k))=w at*
      have hm:((p.getD k.toNat 0*w).natAbs:Int)<=8*pw 100:=by
       rw [Int.natAbs_mul]
       push_cast
       have:((p.getD k.toNat 0).natAbs:Int)*(w.natAbs:Int)<=pw 100*8:=Qb (by omega) (by omega) (by omega) (by omega);omega
      refine⟨⟨k1,by omega⟩,⟨k1,hk,by omega⟩,⟨k1,by omega⟩,⟨by omega,by omega⟩,by unfold fN;omega,⟨bz hx (by omega),bz (k:=101) (by omega) (by omega)⟩,⟨hb,bz (k:=101) (by omega) (by omega)⟩,?_,by omega⟩;unfold lY;exact⟨by omega,by omega,by rw [show(k+1).toNat=k.toNat+1 by omega];exact hs.symm⟩
    . have ek:k.toNat=i.toNat+1:=by omega
      have hb:b=wJ p i.toNat:=by rw [qe,k3,ek,Int.toNat_of_nonneg i1]
      have hf:=IM q1 (n:=(p.length:Int)-1) (i:=i) (by omega) (by omega) (k:=k.toNat) (by omega);rw [<-k3]at hf;rw [aG (n:=i+1) (by omega) (by omega),QL,N3];have en:=xu p i.toNat;have ea:=yE p i.toNat;rw [<-hb,<-i3]at en;rw [<-hb,<-i4]at ea;have e1:(i+1).toNat=i.toNat+1:=by omega
      unfold mE;rw [e1,en,ea];refine⟨hf,fun h=>⟨⟨by omega,by omega,?_,?_⟩,by omega⟩,fun h=>⟨fun h2=>⟨⟨by omega,by omega,?_,?_⟩,by omega⟩,fun h2=>⟨⟨by omega,by omega,?_,?_⟩,by omega⟩⟩⟩
      . rw [decide_eq_false (by omega)];simp
      . rw [decide_eq_true (by omega)];simp
      . rw [decide_eq_true (by omega)];simp
      . rw [decide_eq_false (by omega)];simp
      . rw [decide_eq_true (by omega)];simp
      . rw [decide_eq_true (by omega)];simp
  . have e:i.toNat=p.length:=by omega
    rw [e]at i3 i4;unfold eY eF;subst i3;subst i4;refine⟨fun h=>⟨rfl,by simp [h]⟩,fun h=>⟨rfl,by simp [h]⟩⟩
 exact h
abbrev Rm :Arg (List (List Int)):=zN fm
abbrev qS (l:List (List Int)):SV:=Rm.enc l
def sQ :=iR.one Rm
def sQY :=iR.cons Rm (iR.one AB)
def Am :List (List Int)->Int×Int->Int->Int->Int
 |[],_,_,n=>n
 |p::r,y,last,n=>Am r y (if aW (cY p y)=0 then last else aW (cY p y)) (if aW (cY p y)=0\/last=0\/aW (cY p y)=last then n else n+1)
def ep (l:List (List Int)) (y:Int×Int):Int:=Am l y 0 0
def jO (l:List (List Int)) (y:Int×Int):Prop:=l.length<=10/\ ∀p∈l,bM p y
def im (l:List (List Int)) (y:Int×Int) (i n last:Int):Prop:=0<=i/\i<=l.length/\0<=n/\n<=i/\Am (l.drop i.toNat) y last n=ep l y
attribute [irreducible] Am ep jO im
def c260 :bB:=fl sQY.dec (fun a=>jO a.1 a.2) (fun a=>iS (ep a.1 a.2))
def UB :List (Nat×bB):=(260,c260)::Vm
def a260 (l:List (List Int)) (y:Int×Int):List kM:=[⟨.unit, .list [.int .i64 (.tm 12), .int .i64 (.tm 5), .int .i64 (.tm 6)],fun _ (x:Int×Int×Int)=>im l y x.1 x.2.1 x.2.2,fun _ (x:Int×Int×Int)=>(l.length-x.1).toNat⟩]
def Sm (l:List (List Int)) (y:Int×Int):Prop:=fQ Vm Tryz.f260 (a260 l y) [qS l,yS y] (iS (ep l y))
theorem N9 (l:List (List Int)) (y:Int×Int):(
 let q:=sm (0:Int)
 let j:=fun(y:List (List Int))=>y.length
 let v:=fun(y:List (List Int)) (m:Nat)=>(y.getD m []).length
 let w:=fun(y:List (List Int))=>j y=j y/\ ∀(i:Nat),i<j y->(sm (v y i)/\ ∀(i_1:Nat),i_1<v y i->pW ((y.getD i []).getD i_1 0))/\True
 let d:=fun(y:List (List Int))=>(↑(j y):Int)
 let x:=ab 24 True
 let r:=fun(y:Int×Int)=>decide (y.fst<0)
 let t:=fun(y:Int×Int)=>(dz y.fst).length
 let E:=fun(y:Int×Int) (m:Nat)=>(aF IntKind.u32).enc ((dz y.fst).getD m 0)
 let z:=fun(y:Int×Int)=>SV.aI 1 (t y) fun i=>E y i
 let g:=fun(y:Int×Int)=>y.snd
 let A:=fun(y:Int×Int)=>List.map ar.shape [ar.s (SV.bool (r y)),ar.s (z y),ar.s (SV.int IntKind.i64 (g y))]
 let h:=fun(y:Int×Int)=>A y=A y/\(sm (r y)/\(sm (t y)/\ ∀(i:Nat),i<t y->sm ((dz y.fst).getD i 0)/\True)/\g y=g y/\True)/\True
 let k:=fun(y:List (List Int)) (m:Int)=>y.getD m.toNat []
 let B:=fun(y:Int×Int)=>(zz y.fst,g y)
 let e:=fun(y:List (List Int)) (m:Int) (s:Int×Int)=>aW (cY (eR (k y m)) (B s))
 let f:=fun(y:List (List Int)) (m:Int) (s:Int×Int)=>e y m s !=0
 let C:=fun(y:Int)=>y !=0
 let D:=fun(y:List (List Int)) (m s:Int) (x1:Int×Int)=>e y m x1 !=s
 let c:=fun(y:Int)=>W (y+1)
 let o:=fun(y:List (List Int)) (m:Int)=>(d y-c m).toNat<(d y-m).toNat
 let p:=fun(y:List (List Int)) (m:Int)=>ab 3 (w y/\d y=d y/\sm (c m)/\x)
 let u:=fun(y:List (List Int)) (m s x1:Int) (y1:Int×Int)=>(f y m y1=true->ab 2 (im y y1 (c m) s (e y m y1)/\o y m/\ab 5 (s=s/\sm (e y m
  y1)/\p y m)/\h y1))/\(f y m y1=false->True/\im y y1 (c m) s x1/\o y m/\ab 5 (s=s/\x1=x1/\p y m)/\h y1)
 ab 3 ((im l y 0 0 0/\ab 5 (q/\q/\ab 3 (w l/\d l=d l/\q/\x))/\h y)/\ ∀(n n_1 n_2:Int),im l y n n_1 n_2->True/\(decide (n<d l)=true->
  (0<=n/\n<d l)/\ab 3 ((((∀(i:Nat),i<(k l n).length->true=true/\aj.ak (aj.enc ((k l n).getD i 0)))/\cR.ak [SV.bool (r y),z y,SV.int IntKind.i64
  (g y)])/\bM (eR (k l n)) (B y))/\True/\(f l n y=true->(C n_2=true->True/\(D l n n_2 y=true->ab 2 ((f l n y=true->ab 2 (im l y (c n) (c
  n_1) (e l n y)/\o l n/\ab 5 (sm (c n_1)/\sm (e l n y)/\p l n)/\h y))/\(f l n y=false->True/\im l y (c n) (c n_1) n_2/\o l n/\ab 5 (sm (c n_1)/\
  n_2=n_2/\p l n)/\h y)))/\(D l n n_2 y=false->True/\u l n n_1 n_2 y))/\(C n_2=false->ab 2 (u l n n_1 n_2 y)))/\(f l n y=false->ab 2 (u l n n_1
  n_2 y))))/\(decide (n<d l)=false->ab 2 (n_1=ep l y/\True))))=Sm l y:=by kernel_rfl
theorem ub (y:Int×Int) (a n:Int):Am [] y a n=n:=by unfold Am;rfl
theorem gB (p:List Int) (r:List (List Int)) (y:Int×Int) (a n:Int):Am (p::r) y a n=Am r y (if aW (cY p y)=0 then a else aW (cY p y)) (if aW (cY p y)=0\/a=0\/aW (cY p y)=a then n else n+1):=by rw [Am]
theorem tV (l:List (List Int)) (y:Int×Int):ep l y=Am l y 0 0:=by unfold ep;rfl
theorem E5 {l:List (List Int)} {y:Int×Int} {i n a:Int} (h:im l y i n a) (hi:i<l.length):im l y (i+1) (if aW (cY (l.getD i.toNat []) y)=0\/a=0\/aW (cY (l.getD i.toNat []) y)=a then n else n+1) (if aW (cY (l.getD i.toNat []) y)=0 then a else aW (cY (l.getD i.toNat []) y)):=by
 unfold im at h⊢;obtain⟨h1,h2,h3,h4,h5⟩:=h;refine⟨by omega,by omega,by split<;>omega,by split<;>omega,?_⟩;have hi':i.toNat<l.length:=by omega
 rw [Qa hi',gB]at h5;rw [show(i+1).toNat=i.toNat+1 by omega,J0,J4 hi'];exact h5
theorem Uy {l:List (List Int)} {y:Int×Int} {i n a:Int} (h:im l y i n a):0<=i/\i<=l.length/\0<=n/\n<=i:=by
 unfold im at h;exact⟨h.1,h.2.1,h.2.2.1,h.2.2.2.1⟩
theorem k260 :aH Tryz.prog UB:=av k350 hm Tryz.func260 (by kernel_rfl) (by kernel_rfl) sQY.ok (by kernel_rfl) (fun a=>a260 a.1 a.2) fun a hp=>by
 have h:Sm a.1 a.2:=by
  rw [<-N9];simp only [aA];obtain⟨l,y⟩:=a
  try dsimp only at hp
  unfold jO at hp;obtain⟨q1,q2⟩:=hp;simp [-List.getD_eq_getElem?_getD];refine⟨by unfold im;exact⟨by omega,by omega,by omega,by omega,by rw [tV];rfl⟩,fun i n a hinv=> ?_⟩;obtain⟨b1,b2,b3,b4⟩:=Uy hinv;refine⟨fun hi=> ?_,fun hi=> ?_⟩
  . have hst:=E5 hinv hi;have hpre:bM (l.getD i.toNat []) (y.1,y.2):=by
     rw [J0,J4 (by omega)];exact q2 _ (Ku _)
    rw [aG (n:=i+1) (by omega) (by omega),aG (n:=n+1) (by omega) (by omega)]
    change _/\(cR.ak _/\bM _ y)/\_
    generalize hs:aW (cY (l.getD i.toNat []) y)=s at*
    refine⟨⟨b1,hi⟩,⟨cR.kW y,hpre⟩,fun h1=>⟨fun h2=>⟨fun h3=>⟨fun _=> ?_,fun h=>absurd h h1⟩,fun h3=>⟨fun _=> ?_,fun h=>absurd h h1⟩⟩,fun h2=>⟨fun _=> ?_,fun h=>absurd h h1⟩⟩,fun h1=>⟨fun h=>absurd h1 h,fun _=> ?_⟩⟩
    . rw [if_neg (by omega),if_neg h1]at hst;exact⟨hst,by omega⟩
    . rw [if_pos (by omega),if_neg h1]at hst;exact⟨hst,by omega⟩
    . rw [if_pos (by omega),if_neg h1]at hst;exact⟨hst,by omega⟩
    . rw [if_pos (by omega),if_pos h1]at hst;exact⟨hst,by omega⟩
  . unfold im at hinv;rw [<-hinv.2.2.2.2,Y6 (by omega),ub]
 exact h
def kq (n:Nat):Nat:=321*4^n-1
def Vs :Nat->List Int->List Int->List (List Int)
 |0,_,_=>[]
 |k+1,a,b=>if b.length=0 then []else b::Vs k b (dH (dh a b))
def wB (p:List Int):List Int:=ag (aX (bE p))
def bC (p:List Int):List (List Int):=if(bE p).length=0 then []else bE p::Vs (wB p).length (bE p) (wB p)
def pC (p:List Int) (l:List (List Int)) (a b:List Int):Prop:=a.length<=3/\b.length<=3/\bj (kq (3-b.length)) a/\bj (kq (3-b.length)) b/\ae b=b/\l.length+b.length<=5/\l++Vs b.length a b=bC p
attribute [irreducible] Vs wB bC pC
def c259 :bB:=fl sP.dec (fun a=>gp a) (fun a=>qS (bC a))
def Wh :List (Nat×bB):=(259,c259)::UB
def ZE (p:List Int):List kM:=[⟨.unit, .list [.ah fm 0 218 [.tm 4], .fogT [12], .fz1 5, .KD aj (.tm 3), .KD aj (.tm 5)],fun _ (x:List (List Int)×Unit×Unit×List Int×List Int)=>pC p x.1 x.2.2.2.1 x.2.2.2.2,fun _ (x:List (List Int)×Unit×Unit×List Int×List Int)=>x.2.2.2.2.length⟩]
def TK (p:List Int):Prop:=fQ UB Tryz.f259 (ZE p) [pS p] (qS (bC p))
theorem Mc (p:List Int):(
 let k:=fun(x:List Int)=>x.length
 let o:=true=true
 let d:=aj
 let D:=fun(x:List Int) (m:Nat)=>d.enc (x.getD m 0)
 let E:=fun(x:List Int)=> ∀(i:Nat),i<k x->o/\d.ak (D x i)
 let c:=fun(x:List Int)=>eR x
 let q:=fun(x:List Int)=>(bE (c x)).length
 let L:=fun(x:List Int)=> ↑(q x)==(0:Int)
 let r:=fun(x:List Int) (m:Nat)=>(bE (c x)).getD m 0
 let g:=fun(x:List Int)=>eR (bE (c x))
 let s:=fun(x:List Int)=>ag (eR (aX (g x)))
 let t:=fun(x:List Int)=>(s x).length
 let v:=fm
 let c4:=fun(x:List Int)=>fun i=>d.enc (r x i)
 let w:=fun(m:List Int)=>ah v 1 fun x=>[SV.aI 2 (q m) (c4 m)]
 let y:=fun(x:List Int) (m:Nat)=>(dz (r x m)).length
 let F:=sm 0
 let M:=fun(x:List Int)=>1=(w x).length
 let z:=fun(x:List Int) (m:Nat)=>(s x).getD (0+m) 0
 let N:=fun(x:List Int) (m:Nat)=>dz ((uR (s x)).getD m 0)
 let O:=ab 23 True
 let P:=([]:List (Option (Nat×Nat)))
 let G:=P=P
 let Q:=1=v.n
 let h:=([]:List Int)
 let H:=fun(x:List Int) (m x1:Nat)=>((w x).getD m h).getD x1 0
 let R:=fun(x:List Int)=>G/\((sm (t x)/\sm 2/\ ∀(i:Nat),i<t x->pW ((s x).getD i 0))/\True)/\True
 let T:=fun(x:List Int)=>decide (↑(k x)>(0:Int))
 let e:=fun(x:List (List Int))=>x.length
 let u:=fun(x:List (List Int))=>e x+1
 let A:=fun(x m:List Int)=>dh (c x) (c m)
 let J:=fun(x:List (List Int)) (m:Nat)=>x.getD m h
 let B:=fun(x:List (List Int)) (m:List Int)=>ah v (u x) fun j=>af (decide (j<e x)) (v.enc (J x j)) [SV.aI 2 (k m) (D m)]
 let f:=fun(x m:List Int)=>dH (eR (A x m))
 let c0:=fun(x:List (List Int)) (m:List Int)=>u x=(B x m).length
 let c1:=fun(x m:List Int) (x1:Nat)=>(dz ((f x m).getD x1 0)).length
 let c2:=fun(x:Nat) (m:List (List Int)) (x1:List Int)=>if decide (x<e m)=true then(J m x).length else k x1
 let c3:=fun(x:List (List Int)) (m:Nat)=>(x.getD (0+m) h).length
 let C:=fun(x:List (List Int)) (m x1:Nat)=>(x.getD (0+m) h).getD x1 0
 let K:=fun(x:List Int) (m x1:Nat)=>((bC x).getD m h).getD x1 0
 ab 2 ((E p/\gp (c p))/\ab 2 ((L p=true->ab 2 ((bC p).length=0/\True))/\(L p=false->ab 2 (((∀(i:Nat),i<q p->o/\d.ak (d.enc (r p
  i)))/\bj 100000 (g p))/\True/\((∀(i:Nat),i<(aX (g p)).length->o/\d.ak (d.enc ((aX (g p)).getD i 0)))/\cr (eR (aX (g p))))/\True/\(0+t
  p<=t p/\ ∀(i:Nat),i<t p->o)/\(pC p (w p) (g p) (uR (s p))/\ab 3 ((q p=(g p).length/\ ∀(i:Nat),i<q p->decide (r p i<0)=decide ((g p).getD
  i 0<0)/\(y p i=(dz ((g p).getD i 0)).length/\ ∀(i_1:Nat),i_1<y p i->(dz (r p i)).getD i_1 0=(dz ((g p).getD i 0)).getD i_1 0/\True)/\True)/\(F/\
  M p)/\(t p=(uR (s p)).length/\ ∀(i:Nat),i<t p->decide (z p i<0)=decide ((uR (s p)).getD i 0<0)/\((dz (z p i)).length=(N p i).length/\ ∀(i_1
  :Nat),i_1<(dz (z p i)).length->(dz (z p i)).getD i_1 0=(N p i).getD i_1 0/\True)/\True)/\O)/\G/\((M p/\Q/\ ∀(i:Nat),i<1->(q p=((w p).getD i
  h).length/\ ∀(i_1:Nat),i_1<q p->decide (r p i_1<0)=decide (H p i i_1<0)/\(y p i_1=(dz (H p i i_1)).length/\ ∀(i_2:Nat),i_2<y p i_1->(dz (r
  p i_1)).getD i_2 0=(dz (H p i i_1)).getD i_2 0/\True)/\True)/\True)/\True)/\R p)/\ ∀(l:List (List Int)) (l_1 l_2:List Int),pC p l l_1 l_2->True
  /\(T l_2=true->1<=1/\(∀(j:Nat),j<1->o)/\(F/\e l=e l/\u l<=140737488355328/\u l*24<=140737488355328)/\ab 3 (((E l_1/\E l_2)/\ov (c l_1)
  (c l_2))/\True/\((∀(i:Nat),i<(A l_1 l_2).length->o/\d.ak (d.enc ((A l_1 l_2).getD i 0)))/\cr (eR (A l_1 l_2)))/\ab 2 (pC p (B l l_2) (c l_2)
  (eR (f l_1 l_2))/\(eR (f l_1 l_2)).length<k l_2/\ab 3 ((k l_2=(c l_2).length/\ ∀(i:Nat),i<k l_2->decide (l_2.getD i 0<0)=decide ((c l_2).getD
  i 0<0)/\((dz (l_2.getD i 0)).length=(dz ((c l_2).getD i 0)).length/\ ∀(i_1:Nat),i_1<(dz (l_2.getD i 0)).length->(dz (l_2.getD i 0)).getD i_1 0=(dz
  ((c l_2).getD i 0)).getD i_1 0/\True)/\True)/\(F/\c0 l l_2)/\((f l_1 l_2).length=(eR (f l_1 l_2)).length/\ ∀(i:Nat),i<(f l_1 l_2).length->decide ((f
  l_1 l_2).getD i 0<0)=decide ((eR (f l_1 l_2)).getD i 0<0)/\(c1 l_1 l_2 i=(dz ((eR (f l_1 l_2)).getD i 0)).length/\ ∀(i_1:Nat),i_1<c1 l_1 l_2 i->
  (dz ((f l_1 l_2).getD i 0)).getD i_1 0=(dz ((eR (f l_1 l_2)).getD i 0)).getD i_1 0/\True)/\True)/\O)/\G/\((c0 l l_2/\Q/\ ∀(i:Nat),i<u l->(c2 i l
  l_2=((B l l_2).getD i h).length/\ ∀(i_1:Nat),i_1<c2 i l l_2->bK (if decide (i<e l)=true then d.enc ((J l i).getD i_1 0)else D l_2 i_1) (d.enc (((B
  l l_2).getD i h).getD i_1 0)))/\True)/\True)/\R p)))/\(T l_2=false->True/\(0+e l<=e l/\ ∀(i:Nat),i<e l->o)/\(e l=(bC p).length/\ ∀(i:
  Nat),i<e l->(c3 l i=((bC p).getD i h).length/\ ∀(i_1:Nat),i_1<c3 l i->decide (C l i i_1<0)=decide (K p i i_1<0)/\((dz (C l i i_1)).length
  =(dz (K p i i_1)).length/\ ∀(i_2:Nat),i_2<(dz (C l i i_1)).length->(dz (C l i i_1)).getD i_2 0=(dz (K p i i_1)).getD i_2 0/\True)/\True)/\True)/\True))))))=TK p:=by kernel_rfl
theorem UE (n:Nat):1<=4^n:=Z4 (by omega)
theorem RR (n:Nat):kq n+3*(kq n+1)=kq (n+1):=by
 unfold kq;have:=UE n;rw [Xi];omega
theorem uu {n m:Nat} (h:n<=m):kq n<=kq m:=by
 unfold kq;have:=Xv (show 0<4 by omega) h;omega
theorem NM {n:Nat} (h:n<=3):320<=kq n/\kq n<=20543:=by
 have h1:=uu (show 0<=n by omega);have h2:=uu h;have e0:kq 0=320:=rfl;have e3:kq 3=20543:=rfl;omega
theorem zh (a b:List Int):Vs 0 a b=[]:=by unfold Vs;rfl
theorem rN (k:Nat) (a b:List Int):Vs (k+1) a b=if b.length=0 then []else b::Vs k b (dH (dh a b)):=by rw [Vs]
theorem CU (k:Nat) (a:List Int):Vs k a []=[]:=by
 cases k with
 |zero=>exact zh _ _
 |succ k=>rw [rN];rfl
theorem Yr {p:List Int} (h:ae p=p):ae (dH p)=dH p:=by
 by_cases hp:p=[]
 . subst hp;exact iP (.inl (by unfold dH;rfl))
 . refine iP (.inr ?_);have h1:=lQ (p:=p) (by rw [h];exact Xa.2 hp);rw [h]at h1;rw [aN]at h1⊢;rw [jz];unfold dH;rw [J0,J5];rw [J0]at h1;cases e:p[p.length-1]? with
   |none=>rw [e]at h1;exact absurd rfl h1
   |some z=>rw [e]at h1;simp only [K5,K4]at h1⊢;omega
theorem rY {m:Nat} {a b:List Int} (ha:bj m a) (hb:bj m b) (h3:a.length<=3) (ht:ae b=b) (h0:0<b.length):bj (m+3*(m+1)) (dH (dh a b))/\(dH (dh a b)).length<b.length/\ae (dH (dh a b))=dH (dh a b)/\bj (m+3*(m+1)) (dh a b):=by
 obtain⟨r1,r2,r3⟩:=jf ha hb h3 (me ht h0);exact⟨Df r1,by rw [jz];exact r2,Yr r3,r1⟩
theorem xV {m:Nat}: ∀{n:Nat} {a b:List Int},a.length<=3->b.length<=3->ae b=b->b.length<=n->bj m a->bj m b->Vs n a b=Vs b.length a b
 |0,a,b,_,_,_,h,_,_=>by rw [show b.length=0 by omega]
 |n+1,a,b,h1,h2,h3,h,ha,hb=>by
  by_cases h0:0<b.length
  . obtain⟨q,hq⟩: ∃q,b.length=q+1:=⟨b.length-1,by omega⟩;obtain⟨f1,f2,f3,_⟩:=rY ha hb h1 h3 h0;rw [hq,rN,rN,if_neg (by omega),if_neg (by omega)];rw [xV (m:=m+3*(m+1)) h2 (by omega) f3 (by omega) (an hb (by omega)) f1];rw [xV (n:=q) (m:=m+3*(m+1)) h2 (by omega) f3 (by omega) (an hb (by omega)) f1]
  . rw [show b=[]from Kr (by omega),CU,CU]
theorem jg {k:Nat} {p:List Int} (h:bj k p) (h3:p.length<=3):bj (k+1) (aX p)/\(aX p).length<=p.length-1:=by
 have h0:=Cr h (n:=tl p-1) (by have:=cX p;omega);unfold aX;refine⟨fZ h0,?_⟩;rw [bn];have h1:=cX (lW p (tl p-1));have h2:(lW p (tl p-1)).length=tl p-1:=by unfold lW;simp
 have:=cX p;omega
theorem zX (p:List Int):ae (eZ p)=eZ p:=by
 have h:=LY p;rw [dq,h];exact Jz (J1 _)
theorem U1 {P:List Int} (h3:P.length<=3) (hs:bj 90 P) (h: ¬(eU P (aX P)).length<2):bj 91 (eU P (aX P))/\(eU P (aX P)).length<=P.length:=by
 obtain⟨d1,d2⟩:=jg hs h3;have hl:=cN (aX P);have hPl:=cN P;have e0:eU P (aX P)=iN (lT (ag (aX P)).length (ag P) (ag (aX P))):=by unfold eU;rfl
 rw [e0,iH]at h;rw [e0,iH];have sA:=bP hs;have sB:=bP d1;have htB:=dP (aX P);generalize ag P=A at*
 generalize ag (aX P)=B at*
 have key:lT B.length A B=A\/lT B.length A B=B:=by
  rcases(show B.length=0\/B.length=1\/B.length=2 by omega)with hb|hb|hb
  . rw [hb,mG];exact .inl rfl
  . rw [hb,jb,if_pos (by omega),mG];exact .inr rfl
  . rw [hb,jb,if_pos (by omega),jb]at h⊢;obtain⟨_,r2,_⟩:=jf (an sA (by omega)) sB (by omega) (me htB (by omega));split
    . rename_i h0;rw [if_pos h0,mG]at h;omega
    . exact .inr rfl
 rcases key with e|e
 . rw [e];exact⟨rf (an sA (by omega)),hPl⟩
 . rw [e];exact⟨rf sB,by omega⟩
theorem np (k n:Nat) (hn:n<=1000):bj k (List.replicate n 0):=by
 refine jd (by simpa using hn) fun z hz=> ?_
 rw [(List.mem_replicate.1 hz).2];simpa using aE k
theorem ma {p:List Int} (h:gp p):(bE p).length<=3/\bj 319 (bE p)/\ae (bE p)=bE p:=by
 unfold gp at h;obtain⟨h1,h3⟩:=h;have hs:=yU h1;have hl:=Dw p;have ht:=zX p;have hf:bE p=if(eZ p).length<2 then eZ p else if(eU (eZ p) (aX (eZ p))).length<2 then eZ p else mz (eZ p) (eU (eZ p) (aX (eZ p))):=by unfold bE;rfl
 rw [hf];generalize eZ p=P at*
 split
 . exact⟨by omega,an hs (by omega),ht⟩
 . split
   . exact⟨by omega,an hs (by omega),ht⟩
   . rename_i h2;obtain⟨c1,c2⟩:=U1 (by omega) hs h2;generalize eU P (aX P)=G at*
     have hq:qN P G<=2:=by unfold qN;have:=cX P;omega
     have hd:bj 319 (oY G (qN P G) (ae P,List.replicate (qN P G) 0)).2/\(oY G (qN P G) (ae P,List.replicate (qN P G) 0)).2.length=qN P G:=by
      have s0:bj 90 (ae P):=fZ hs;rcases(show qN P G=0\/qN P G=1\/qN P G=2 by omega)with e|e|e
      . rw [e,pK];exact⟨np _ _ (by omega),by simp⟩
      . rw [e,pE,pK];obtain⟨a1,a2⟩:=nJ (i:=0) s0 (np 90 1 (by omega)) c1;exact⟨an a2 (by omega),by unfold ph;simp [fo]⟩
      . rw [e,pE,pE,pK];obtain⟨a1,a2⟩:=nJ (i:=1) s0 (np 90 2 (by omega)) c1;obtain⟨b1,b2⟩:=nJ (i:=0) (r:=(ph G 1 (ae P,List.replicate 2 0)).1) (q:=(ph G 1 (ae P,List.replicate 2 0)).2) a1 a2 c1;exact⟨an b2 (by omega),by unfold ph;simp [fo]⟩
     have e:mz P G=ag (oY G (qN P G) (ae P,List.replicate (qN P G) 0)).2:=by unfold mz;rfl
     rw [e];exact⟨by have:=cN (oY G (qN P G) (ae P,List.replicate (qN P G) 0)).2;omega,bP hd.1,dP _⟩
theorem JU {p:List Int} (h:gp p):bj 320 (aX (bE p))/\(wB p).length<=2/\bj 320 (wB p)/\ae (wB p)=wB p:=by
 obtain⟨f1,f2,f3⟩:=ma h;obtain⟨d1,d2⟩:=jg f2 f1;have hl:=cN (aX (bE p));unfold wB;exact⟨d1,by omega,bP d1,dP _⟩
theorem AY (p:List Int):fm.dec [SV.aI 2 p.length fun i=>aj.enc (p.getD i 0)]=some p:=fm.self p
theorem Vt (p:List Int):(ah fm 1 fun x=>[SV.aI 2 p.length fun i=>aj.enc (p.getD i 0)])=[p]:=xY (C:=fm) (n:=1) (AY p)
theorem Tg (l:List (List Int)) (p:List Int):(ah fm (l.length+1) fun j=>af (decide (j<l.length)) (fm.enc (l.getD j [])) [SV.aI 2 p.length fun i=>aj.enc (p.getD i 0)])=l++[p]:=vQ (C:=fm) (AY p)
theorem k259 :aH Tryz.prog Wh:=av k260 hm Tryz.func259 (by kernel_rfl) (by kernel_rfl) sP.ok (by kernel_rfl) (fun a=>ZE a) fun a hp=>by
 have h:TK a:=by
  rw [<-Mc];simp only [aA];generalize a=p at*
  try dsimp only at hp
  simp [-List.getD_eq_getElem?_getD,Vt,Tg];obtain⟨f1,f2,f3⟩:=ma hp;obtain⟨b0,b1,b2,b3⟩:=JU hp;have eB:ag (aX (bE p))=wB p:=by unfold wB;rfl
  have eC:bC p=if(bE p).length=0 then []else bE p::Vs (wB p).length (bE p) (wB p):=by unfold bC;rfl
  rw [eB];refine⟨hp,fun h=>by rw [eC,h];rfl,fun h=> ?_⟩;have hF:0<(bE p).length:=Xa.2 h;rw [if_neg (by omega)]at eC;refine⟨an f2 (by omega),bu b0 (by omega),⟨?_,rfl,rfl,fun i hi=>⟨J9,rfl,fun _ _=>rfl⟩⟩,fun l a b hinv=> ?_⟩
  . unfold pC;have:=(NM (show 3-(wB p).length<=3 by omega)).1;exact⟨f1,by omega,an f2 (by omega),an b2 (by omega),b3,by simp;omega,by rw [eC];rfl⟩
  . unfold pC at hinv;obtain⟨i1,i2,i3,i4,i5,i6,i7⟩:=hinv;refine⟨fun hb=> ?_,fun hb=> ?_⟩
    . obtain⟨n1,n2,n3,n4⟩:=rY i3 i4 i1 i5 hb;rw [RR]at n1 n4;have k1:=(NM (show 3-b.length<=3 by omega)).2;have k2:=(NM (show 3-b.length+1<=3 by omega)).2;have k3:=uu (show 3-b.length+1<=3-(dH (dh a b)).length by omega);have k4:=uu (show 3-b.length<=3-(dH (dh a b)).length by omega);refine⟨⟨by omega,by omega⟩,?_,bu n4 (by omega),?_,n2,rfl,fun i hi=>⟨?_,fun j hj=> ?_⟩⟩
      . unfold ov;exact⟨an i3 (by omega),an i4 (by omega),by omega,by omega,me i5 hb⟩
      . unfold pC;refine⟨i2,by omega,an i4 k4,an n1 k3,n3,by simp;omega,?_⟩;rw [<-i7];obtain⟨q,hq⟩: ∃q,b.length=q+1:=⟨b.length-1,by omega⟩;rw [hq,rN,if_neg (by omega),xV (n:=q) (m:=kq (3-b.length+1)) i2 (by omega) n3 (by omega) (an i4 (uu (by omega))) n1];simp
      . rw [gD hi];split<;>rfl
      . rw [gD hi];split
        . exact aj.ok _ _ (aj.self _) (aj.kW _)
        . exact aj.ok _ _ (aj.self _) (aj.kW _)
    . subst hb;rw [CU,Kw]at i7;rw [i7];exact⟨rfl,fun i hi=>⟨rfl,fun j hj=>⟨J9,rfl,fun _ _=>rfl⟩⟩⟩
 exact h
end Go.Proofs.Big
