import Derived.Test.YtpjiopgakifhaaaGreatRA
import Derived.Test.YtpjiopgakifhaaaGreatRJ
import Derived.Test.YtpjiopgakifhaaaGreatRP
set_option linter.unusedSectionVars false
set_option linter.unusedSimpArgs false
set_option linter.unusedVariables false
set_option maxRecDepth 100000
namespace Go.Proofs.Big
open Go Go.Sx Go.Proofs Tryz
variable [bW]
set_option maxHeartbeats 4000000
attribute [local irreducible] lm nv tl dg dz
def og(c:Int)(l:Ω):Ω:=l.map λz=>z*c
def tK(r g:Ω)(t:Int)(i n:Nat):Ω:=(List.range r.length).map λm=>if i<=m/\m<i+n then r.getD m 0-t*g.getD (m-i) 0 else r.getD m 0
def ph(g:Ω)(i:Nat)(s:Ω×Ω):Ω×Ω:=
 (tK (og (bw g) s.1) g (s.1.getD (i+g.length-1) 0) i g.length,(og (bw g) s.2).set i (s.1.getD (i+g.length-1) 0))
def oY(g:Ω):Nat->Ω×Ω->Ω×Ω
 |0,s=>s
 |n+1,s=>oY g n (ph g n s)
def qN(p g:Ω):Nat:=tl p-g.length+1
def mz(p g:Ω):Ω:=ag (oY g (qN p g) (ae p,List.replicate (qN p g) 0)).2
def zB(p g:Ω):Prop:=bj 10000 p/\bj 10000 g/\p.length<=8/\0<g.length/\g.length<=tl p
def oH(p g:Ω)(i:Int)(r q:Ω):Prop:= -1<=i/\i<qN p g/\r.length=tl p/\q.length=qN p g/\bj (10000+10001*(qN p g-1-i).toNat) r/\bj (10000+10001*(qN p g-1-i).toNat) q/\oY g (i+1).toNat (r,q)=oY g (qN p g) (ae p,List.replicate (qN p g) 0)
def xU(c:Int)(b:Ω)(j:Int)(r:Ω):Prop:=0<=j/\j<=b.length/\r=og c (b.take j.toNat)++b.drop j.toNat
def iV(g:Ω)(t:Int)(i:Int)(b:Ω)(j:Int)(r:Ω):Prop:=0<=j/\j<=g.length/\r=tK b g t i.toNat j.toNat
attribute [irreducible] og tK ph oY qN mz zB oH xU iV
def c312:bB:=ow Hs.dec (λa=>zB a.1 a.2) (λa=>pS (mz a.1 a.2))
def Um:List (Nat×bB):=(312,c312)::U7
def aac(p:Ω)(g:Ω):List kM:=[⟨.unit,.list [.int .i64 (.tm 8),.iQ aj (tl p) 0 0,.iQ aj (qN p g) 2 0],λ_ (x:Int×Ω×Ω)=>oH p g x.1 x.2.1 x.2.2,λ_ (x:Int×Ω×Ω)=>(x.1+1).toNat⟩,⟨.list [.cod aj 1 0,.iQ aj (tl p) 0 0],.list [.int .i64 (.tm 45),.iQ aj (tl p) 0 0],λ(y:Int×Ω)(x:Int×Ω)=>xU y.1 y.2 x.1 x.2,λ(y:Int×Ω)(x:Int×Ω)=>(tl p-x.1).toNat⟩,⟨.list [.cod aj 1 0,.iQ aj (qN p g) 2 0],.list [.int .i64 (.tm 60),.iQ aj (qN p g) 2 0],λ(y:Int×Ω)(x:Int×Ω)=>xU y.1 y.2 x.1 x.2,λ(y:Int×Ω)(x:Int×Ω)=>(qN p g-x.1).toNat⟩,⟨.list [.int .i64 (.tm 8),.cod aj 3 0,.iQ aj (tl p) 0 0],.list [.int .i64 (.tm 79),.iQ aj (tl p) 0 0],λ(y:Int×Int×Ω)(x:Int×Ω)=>iV g y.2.1 y.1 y.2.2 x.1 x.2,λ(y:Int×Int×Ω)(x:Int×Ω)=>(g.length-x.1).toNat⟩]
def Tm(p:Ω)(g:Ω):Prop:=fQ U7 f312 (aac p g) [pS p,pS g] (pS (mz p g))
theorem Oq(p:Ω)(g:Ω):(
 let P:=true=true
 let c:=aj
 let A:=λ(x:Ω)(m:Nat)=>x.getD m 0
 let G:=λ(x:Ω)(m:Nat)=>c.enc (A x m)
 let e:=λ(x:Ω)=>(↑x.length:Int)
 let d3:=λ(x:Ω)=>W (e x-1)
 let Q:=λ(x:Ω)=>(ae (eR x)).length
 let h:=λ(x:Ω)=>(↑(Q x):Int)
 let K:=λ(x m:Ω)=>W (W (h x-e m)+1)
 let B:=λ(x m:Ω)=>(K x m).toNat
 let o:=λ(x m:Ω)=>(↑(B x m):Int)
 let g4:=λ(x:Ω)(m:Nat)=>c.enc ((ae (eR x)).getD m 0)
 let R:=λ(x:Ω)=>ah c (tl x) λi=>g4 x i
 let d4:=λ(m s:Ω)=>ah c (qN m s) λx=>[SV.ff,SV.aq]
 let r:=λ(x:Ω)=>x.length=x.length/\∀i,i<x.length->pW (A x i)
 let e7:=sm 0
 let t:=λ(x:Ω)=>e7/\sm (Q x)
 let u:=λ(x m:Ω)=>e7/\sm (B x m)
 let e8:=ab 94 True
 let e9:=([]:List (Option (Nat×Nat)))
 let d:=e9=e9
 let d5:=c.n
 let H:=2=d5
 let d6:=λ(x:Ω)(m:Nat)=>dz ((ae (eR x)).getD m 0)
 let f0:=List.map ar.shape ([ar.s SV.ff]++([ar.s SV.aq]++[]))
 let C:=f0=f0
 let d7:=λ(x:Ω)=>x.getD (d3 x).toNat 0
 let J:=λ(x:Ω)=>pW (d7 x)
 let f1:=λ(x:Int)=>decide (x>=0)
 let T:=λ(x:Int)(m:Ω)=>W (W (x+e m)-1)
 let v:=λ(x:Ω)=>zz (d7 x)
 let f:=λ(x m:Ω)=>ah c (tl x) (G m)
 let d8:=sm (0:Int)
 let f2:=ab 57 True
 let c0:=λ(x:Ω)=>tl x=tl x
 let c1:=d5=d5
 let L:=λ(x:Ω)(m:Nat)=>decide (A x m<0)
 let D:=λ(x:Ω)(m:Nat)=>(dz (A x m)).length
 let d9:=λ(x:Ω)(m s:Nat)=>(dz (A x m)).getD s 0
 let e0:=λ(x m:Ω)=>(c0 x/\c1/\∀i,i<tl x->L m i=decide ((f x m).getD i 0<0)/\(D m i=(dz ((f x m).getD i 0)).length/\∀(b:
  Nat),b<D m i->d9 m i b=(dz ((f x m).getD i 0)).getD b 0/\True)/\True)/\True
 let M:=λ(x m:Ω)=>qN x m=qN x m
 let k:=λ(x m:Ω)(s:Int)=>x.getD (0+(T s m).toNat) 0
 let c2:=λ(x m:Ω)(s:Int)=>C/\pW (k x m s)/\True
 let f3:=λ(x m s x1:Ω)(y1:Int)=>C/\J x/\d/\((M m x/\c1/\∀i,i<qN m x->pW (A s i))/\True)/\c2 x1 x y1
 let E:=λ(x:Int)=>0+x.toNat
 let N:=λ(x:Ω)(m:Int)=>x.getD (E m) 0
 let f4:=λ(x m:Ω)(s:Int)=>(c.ak (zc (N x s))/\c.ak (zc (d7 m)))/\fit (zz (N x s))/\fit (v m)
 let e1:=ru true
 let q:=λ(x:Int)=>W (x+1)
 let w:=λ(x:Nat)(m:Int)=>decide (x=E m)
 let c3:=λ(x m:Ω)(s:Int)=>zz (N x s)*v m
 let y:=λ(x:Int)(m s:Ω)=>λi'=>af (w i' x) (cE (c.enc (N m x)) 0 (zc (c3 m s x))) (G m i')
 let f5:=λ(x:Nat)(m:Int)(s x1:Ω)=>if w x m=true then decide (c3 s x1 m<0)else L s x
 let c4:=λ(x:Nat)(m:Int)(s x1:Ω)=>if w x m=true then(dz (c3 s x1 m)).length else D s x
 let z:=aF IntKind.u32
 let e2:=λ(x:Ω)(m s:Nat)=>z.enc (d9 x m s)
 let f6:=λ(x m:Nat)(s:Int)(x1 y1:Ω)=>if w x s=true then z.enc ((dz (c3 x1 y1 s)).getD m 0)else e2 x1 x m
 let F:=λ(x m s:Ω)=>ah c (qN x m) (G s)
 let f7:=ab 42 True
 let f8:=λ(x m:Ω)=>(c0 x/\c1/\∀i,i<tl x->pW (A m i))/\True
 let e3:=λ(x:Int)(m s:Ω)=>0<=x/\x<o m s
 let f9:=ab 23 True
 let g0:=λ(x:Nat)(m:Int)(s x1 y1:Ω)=>if w x m=true then decide (k s x1 m<0)else L y1 x
 let c5:=λ(x:Nat)(m:Int)(s x1 y1:Ω)=>if w x m=true then(dz (k s x1 m)).length else D y1 x
 let e4:=λ(x m:Nat)(s:Int)(x1 y1 u1:Ω)=>if w x s=true then z.enc ((dz (k x1 y1 s)).getD m 0)else e2 u1 x m
 let g1:=λ(x m s x1:Ω)(y1:Int)=>C/\J x/\d/\((M m x/\sm 2/\∀i,i<qN m x->sm (g0 i y1 s x x1)/\(sm (c5 i y1 s x x1)/\∀(b:
  Nat),b<c5 i y1 s x x1->bK (e4 i b y1 s x x1) (e4 i b y1 s x x1))/\True)/\True)/\c2 s x y1
 let g2:=λ(x m:Int)(s:Ω)=>0<=W (x+m)/\W (x+m)<h s
 let c6:=λ(x m:Int)=>0+(W (x+m)).toNat
 let c7:=λ(x:Ω)(m s:Int)=>x.getD (c6 m s) 0
 let e5:=λ(x m:Ω)(s x1:Int)=>zz (k x m s)*zz (m.getD x1.toNat 0)
 let c8:=λ(x:Nat)(m s:Int)=>decide (x=c6 m s)
 let c9:=λ(x m s:Ω)(x1 y1:Int)=>zz (c7 x x1 y1)-zz (e5 m s x1 y1)
 let d0:=λ(x m s x1:Ω)(y1 u1:Int)=>ah c (tl x) λi'=>af (c8 i' y1 u1) (cE (c.enc (c7 m y1 u1)) 0 (zc (c9 m s x1 y1 u1))) (G m i')
 let g3:=λ(x:Nat)(m s:Int)(x1 y1 u1:Ω)=>if c8 x m s=true then(dz (c9 x1 y1 u1 m s)).length else D x1 x
 let d1:=λ(x m s x1:Ω)(y1:Int)=>ah c (qN x m) λi'=>af (w i' y1) (cE (c.enc (N s y1)) 0 (zc (k x1 m y1))) (G s i')
 let g5:=λ(x:Ω)(m:Nat)=>c.enc (x.getD (0+m) 0)
 let d2:=λ(x m s:Ω)=>ah c (B x m) λi=>g5 s i
 let O:=λ(x m s:Ω)=>(ag (d2 x m s)).length
 let e6:=λ(x m s:Ω)(x1:Nat)=>dz ((ag (d2 x m s)).getD (0+x1) 0)
 ab 2 (((∀i,i<p.length->P/\c.ak (G p i))/\cr (eR p))/\True/\(0<=d3 g/\d3 g<e g)/\True/\(sm (K p g)/\0<=K p g/\K p g<=9223372036854775807
  /\32*K p g<=281474976710656)/\ab 2 ((oH p g (W (o p g-1)) (R p) (d4 p g)/\(True/\r g/\ab 3 (t p/\True/\u p g/\sm (W (o p g-1))/\e8))/\d/\((Q
  p=tl p/\H/\∀i,i<Q p->decide ((ae (eR p)).getD i 0<0)=decide ((R p).getD i 0<0)/\((d6 p i).length=(dz ((R p).getD i 0)).length/\∀(b
  :Nat),b<(d6 p i).length->(d6 p i).getD b 0=(dz ((R p).getD i 0)).getD b 0/\True)/\True)/\True)/\C/\J g/\d/\((B p g=qN p g/\H/\∀(i:Nat),
  i<B p g->decide ((d4 p g).getD i 0<0)=false/\(dz ((d4 p g).getD i 0)).length=0/\True)/\True)/\True)/\∀(n:Int)(l Z:Ω),oH p g n l
  Z->True/\(f1 n=true->(0<=T n g/\T n g<h p)/\0+(T n g).toNat<tl p/\ab 2 ((xU (v g) (f p l) 0 (f p l)/\(True/\r g/\ab 3 (t p/\True/\u p
  g/\n=n/\ab 35 (h p=h p/\d8/\f2)))/\d/\e0 p l/\f3 g p Z l n)/\∀(ac:Int)(aw:Ω),xU (v g) (f p l) ac aw->True/\(decide (ac<h
  p)=true->True/\(0<=ac/\ac<h p)/\E ac<tl p/\ab 2 (f4 aw g ac/\(0<=ac/\ac<h p)/\E ac<tl p/\e1/\True/\xU (v g) (f p l) (q ac) (ah
  c (tl p) (y ac aw g))/\(↑(tl p)-q ac).toNat<(↑(tl p)-ac).toNat/\(True/\r g/\ab 3 (t p/\True/\u p g/\n=n/\ab 35 (h p=h p/\sm (q ac)/\f2)))
  /\d/\((c0 p/\H/\∀i,i<tl p->f5 i ac aw g=decide ((ah c (tl p) (y ac aw g)).getD i 0<0)/\(c4 i ac aw g=(dz ((ah c (tl p) (y ac aw
  g)).getD i 0)).length/\∀(b:Nat),b<c4 i ac aw g->bK (f6 i b ac aw g) (z.enc ((dz ((ah c (tl p) (y ac aw g)).getD i 0)).getD b 0)))/\True)
  /\True)/\f3 g p Z l n))/\(decide (ac<h p)=false->True/\(xU (v g) (F p g Z) 0 (F p g Z)/\(True/\r g/\ab 3 (t p/\True/\u p g/\n=n/\ab
  50 (o p g=o p g/\d8/\f7)))/\d/\f8 p aw/\C/\J g/\d/\((M p g/\c1/\∀i,i<qN p g->L Z i=decide ((F p g Z).getD i 0<0)/\(D Z i=(dz
  ((F p g Z).getD i 0)).length/\∀(b:Nat),b<D Z i->d9 Z i b=(dz ((F p g Z).getD i 0)).getD b 0/\True)/\True)/\True)/\c2 l g n)/\∀(ad
  :Int) (al:Ω),xU (v g) (F p g Z) ad al->True/\(decide (ad<o p g)=true->True/\e3 ad p g/\E ad<qN p g/\ab 2 (f4 al g ad/\e3 ad
  p g/\E ad<qN p g/\e1/\True/\xU (v g) (F p g Z) (q ad) (ah c (qN p g) (y ad al g))/\(↑(qN p g)-q ad).toNat<(↑(qN p g)-ad).toNat/\(True
  /\r g/\ab 3 (t p/\True/\u p g/\n=n/\ab 50 (o p g=o p g/\sm (q ad)/\f7)))/\d/\f8 p aw/\C/\J g/\d/\((M p g/\H/\∀i,i<qN p g->f5
  i ad al g=decide ((ah c (qN p g) (y ad al g)).getD i 0<0)/\(c4 i ad al g=(dz ((ah c (qN p g) (y ad al g)).getD i 0)).length/\∀(b:Nat),b
  <c4 i ad al g->bK (f6 i b ad al g) (z.enc ((dz ((ah c (qN p g) (y ad al g)).getD i 0)).getD b 0)))/\True)/\True)/\c2 l g n))/\(decide (ad<
  o p g)=false->e3 n p g/\E n<qN p g/\ab 2 ((iV g (zz (k l g n)) n (f p aw) 0 (f p aw)/\(True/\r g/\ab 3 (t p/\True/\u p g/\n=n/\ab 69 (e g
  =e g/\d8/\f9)))/\d/\e0 p aw/\g1 g p l al n)/\∀(X:Int)(ax:Ω),iV g (zz (k l g n)) n (f p aw) X ax->True/\(decide (X<e g)=true
  ->True/\g2 n X p/\c6 n X<tl p/\(0<=X/\X<e g)/\ab 2 (((c.ak (zc (k l g n))/\c.ak (zc (g.getD X.toNat 0)))/\fit (zz (k l g n))/\fit (zz
  (g.getD X.toNat 0)))/\ab 2 (((c.ak (zc (c7 ax n X))/\c.ak (zc (e5 l g n X)))/\fit (zz (c7 ax n X))/\fit (zz (e5 l g n X)))/\g2 n X p/\c6
  n X<tl p/\e1/\True/\iV g (zz (k l g n)) n (f p aw) (q X) (d0 p ax l g n X)/\(e g-q X).toNat<(e g-X).toNat/\(True/\r g/\ab 3 (t p/\
  True/\u p g/\n=n/\ab 69 (e g=e g/\sm (q X)/\f9)))/\d/\((c0 p/\H/\∀i,i<tl p->(if c8 i n X=true then decide (c9 ax l g n X<0)
  else L ax i)=decide ((d0 p ax l g n X).getD i 0<0)/\(g3 i n X ax l g=(dz ((d0 p ax l g n X).getD i 0)).length/\∀(b:Nat),b<g3 i n X
  ax l g->bK (if c8 i n X=true then z.enc ((dz (c9 ax l g n X)).getD b 0)else e2 ax i b) (z.enc ((dz ((d0 p ax l g n X).getD i 0)).getD b 0)))
  /\True)/\True)/\g1 g p l al n)))/\(decide (X<e g)=false->True/\oH p g (W (n-1)) (f p ax) (d1 p g al l n)/\(W (n-1)+1).toNat<(n+1).toNat
  /\(True/\r g/\ab 3 (t p/\True/\u p g/\sm (W (n-1))/\e8))/\d/\e0 p ax/\C/\J g/\d/\((M p g/\H/\∀i,i<qN p g->g0 i n l g al=decide
  ((d1 p g al l n).getD i 0<0)/\(c5 i n l g al=(dz ((d1 p g al l n).getD i 0)).length/\∀(b:Nat),b<c5 i n l g al->bK (e4 i b n l g al) (z.enc
  ((dz ((d1 p g al l n).getD i 0)).getD b 0)))/\True)/\True)/\True))))))/\(f1 n=false->(0+B p g<=qN p g/\∀i,i<qN p g->P)/\((∀(i:Nat),
  i<B p g->P/\c.ak ((λ(j:Nat)=>aj.enc (Z.getD j 0)) (0+i)))/\cr (d2 p g Z))/\True/\(0+O p g Z<=O p g Z/\∀i,i<O p g Z
  ->P)/\(O p g Z=(mz p g).length/\∀i,i<O p g Z->decide ((ag (d2 p g Z)).getD (0+i) 0<0)=decide ((mz p g).getD i 0<0)/\((e6 p
  g Z i).length=(dz ((mz p g).getD i 0)).length/\∀(b:Nat),b<(e6 p g Z i).length->(e6 p g Z i).getD b 0=(dz ((mz p g).getD i 0)).getD b
  0/\True)/\True)/\True))))=Tm p g:=by kernel_rfl
theorem fo(c:Int)(l:Ω):(og c l).length=l.length:=by unfold og;simp
theorem vo(c:Int)(l:Ω)(i:Nat):(og c l).getD i 0=l.getD i 0*c:=by
 unfold og;rw[J0,J0,J5];cases l[i]?<;>simp
theorem A7{c:Int}{b r:Ω}{j:Int}(h:xU c b j r):r.length=b.length:=by
 unfold xU at h;obtain⟨d,e,rfl⟩:=h;rw[Y0,fo];simp;omega
theorem DW{c:Int}{b r:Ω}{j:Int}(h:xU c b j r):0<=j/\j<=b.length:=by unfold xU at h;exact⟨h.1,h.2.1⟩
theorem N4(c:Int)(b:Ω):xU c b 0 b:=by
 unfold xU;refine⟨by omega,by omega,?_⟩;unfold og;simp
theorem vD{c:Int}{b r:Ω}{j:Int}(h:xU c b j r):r.getD j.toNat 0=b.getD j.toNat 0:=by
 unfold xU at h;obtain⟨e,i,rfl⟩:=h;have d:(og c (b.take j.toNat)).length=j.toNat:=by rw[fo];simp;omega
 rw[J0,Jy (by omega),d];simp
theorem yz{c:Int}{b r:Ω}{j:Int}(h:xU c b j r)(m:j<b.length):xU c b (j+1) (r.set j.toNat (r.getD j.toNat 0*c)):=by
 have e:=vD h;unfold xU at h⊢;obtain⟨o,p,i⟩:=h;refine⟨by omega,by omega,?_⟩;have k:(og c (b.take j.toNat)).length=j.toNat:=by rw[fo];simp;omega
 have d:j.toNat<b.length:=by omega
 rw[e,i,Qa d,cG k,show(j+1).toNat=j.toNat+1 by omega,X4,J0,J4 d];unfold og;simp only[K5,Y4,Jq,Xj,Qx,J8,Z2]
theorem Bb{c:Int}{b r:Ω}{j:Int}(h:xU c b j r)(e:(b.length:Int)<=j):r=og c b:=by
 unfold xU at h;obtain⟨i,k,d⟩:=h;rw[d,show j.toNat=b.length by omega];simp
theorem ng(r g:Ω)(t:Int)(i n:Nat):(tK r g t i n).length=r.length:=by unfold tK;simp
theorem lI(r g:Ω)(t:Int)(i n:Nat){m:Nat}(h:m<r.length):(tK r g t i n).getD m 0=if i<=m/\m<i+n then r.getD m 0-t*g.getD (m-i) 0 else r.getD m 0:=by
 unfold tK;rw[J0,J5,Q9 h];rfl
theorem D9{l m:Ω}(h:l.length=m.length)(c:∀i,i<l.length->l.getD i 0=m.getD i 0):l=m:=by
 refine List.ext_getElem h λi b d=>?_
 have:=c i b;simpa[J0,J4 b,J4 d]using this
theorem RI(g:Ω)(t i:Int)(b:Ω):iV g t i b 0 b:=by
 unfold iV;refine⟨by omega,by omega,?_⟩;refine D9 (by rw[ng]) λm hm=>?_
 rw[lI _ _ _ _ _ hm,JA (by omega)]
theorem vt{g b r:Ω}{t i j:Int}(h:iV g t i b j r):r.length=b.length:=by
 unfold iV at h;rw[h.2.2,ng]
theorem L5{g b r:Ω}{t i j:Int}(h:iV g t i b j r):0<=j/\j<=g.length:=by unfold iV at h;exact⟨h.1,h.2.1⟩
theorem BO{g b r:Ω}{t i j:Int}(h:iV g t i b j r)(c:0<=i)(d:i+j<b.length):r.getD (i+j).toNat 0=b.getD (i+j).toNat 0:=by
 unfold iV at h;obtain⟨e,k,rfl⟩:=h;rw[lI _ _ _ _ _ (by omega),JA (by omega)]
theorem Hv{g d r:Ω}{t i j:Int}(h:iV g t i d j r)(k:0<=i)(u:j<g.length)(o:i+j<d.length):iV g t i d (j+1) (r.set (i+j).toNat (r.getD (i+j).toNat 0-t*g.getD j.toNat 0)):=by
 have p:=BO h k o;have b:=vt h;unfold iV at h⊢;obtain⟨w,x,q⟩:=h;refine⟨by omega,by omega,?_⟩;rw[p];refine D9 (by rw[ng,Ks,b]) λm hm=>?_
 rw[Ks,b]at hm;rw[lI _ _ _ _ _ hm,bo (by omega),q,lI _ _ _ _ _ hm]
 by_cases e:m=(i+j).toNat
 . rw[JB e,JB (by omega),e,show(i+j).toNat-i.toNat=j.toNat by omega]
 . rw[JA e]
   by_cases c:i.toNat<=m/\m<i.toNat+j.toNat
   . rw[JB c,JB (by omega)]
   . rw[JA c,JA (by omega)]
theorem invSb_end{g b r:Ω}{t i j:Int}(h:iV g t i b j r)(d:(g.length:Int)<=j):r=tK b g t i.toNat g.length:=by
 unfold iV at h;obtain⟨e,k,c⟩:=h;rw[c,show j.toNat=g.length by omega]
theorem DF{l:Ω}{c:Int}{k m:Nat}(b:bj k l)(d:(c.natAbs:Int)<pw m)(i:Nat):((l.getD i 0*c).natAbs:Int)<=pw k*pw m:=bQ (bU b i) d
theorem Ib{l:Ω}{z:Int}(h:z∈l):∃i,i<l.length/\z=l.getD i 0:=by
 obtain⟨i,b,rfl⟩:=List.getElem_of_mem h;exact⟨i,b,by rw[J0,J4 b];rfl⟩
theorem nJ{g r q:Ω}{k m i:Nat}(c:bj k r)(h:bj k q)(o:bj m g):bj (k+(m+1)) (ph g i (r,q)).1/\bj (k+(m+1)) (ph g i (r,q)).2:=by
 have p:((bw g).natAbs:Int)<pw m:=by rw[aN];exact bU o _
 have e:pw (k+(m+1))=4294967296*(pw k*pw m):=by rw[show k+(m+1)=(k+m)+1 by omega,bD,gG]
 have x:0<pw k*pw m:=Je (bN _) (bN _);have u:=bU c (i+g.length-1);unfold ph;refine⟨jd (by rw[ng,fo];exact jm c) λz d=>?_,jd (by rw[Ks,fo];exact jm h) λz d=>?_⟩
 . obtain⟨j,b,rfl⟩:=Ib d;rw[ng]at b;rw[lI _ _ _ _ _ b,vo,e];dsimp only;have w:=DF c p j;have y:=bQ u (bU o (j-i));split<;>omega
 . obtain⟨j,b,rfl⟩:=Ib d;rw[Ks]at b;rw[bo b,e];dsimp only;split
   . have:pw k*1<=pw k*pw m:=Jt (by have:=bN m;omega) (by have:=bN k;omega);omega
   . rw[vo];have w:=DF h p j;omega
theorem pK(g:Ω)(s:Ω×Ω):oY g 0 s=s:=by unfold oY;rfl
theorem divL_s(g:Ω)(n:Nat)(s:Ω×Ω):oY g (n+1) s=oY g n (ph g n s):=by rw[oY]
theorem E3(g:Ω)(i:Nat)(r q:Ω):ph g i (r,q)=(tK (og (bw g) r) g (r.getD (i+g.length-1) 0) i g.length,(og (bw g) q).set i (r.getD (i+g.length-1) 0)):=by unfold ph;rfl
theorem S8{c:Prop}[Decidable c](x y:Int):bK (if c then [SV.int .u32 x]else [SV.int .u32 y]) (if c then [SV.int .u32 x]else [SV.int .u32 y]):=by
 split<;>exact⟨vX rfl,trivial⟩
theorem Sa(k n:Nat)(h:n<=1000):bj k (List.replicate n 0):=jd (by simpa using h) λz b=>by
 rw[List.eq_of_mem_replicate b];simpa using bN k
theorem k312:aH prog Um:=av k315 hm func312 (by kernel_rfl) (by kernel_rfl) Hs.ok (by kernel_rfl) (λa=>aac a.1 a.2) λa D=>by
 have h:Tm a.1 a.2:=by
  rw[<-Oq];simp only[aA];obtain⟨p,g⟩:=a
  try dsimp only at D
  unfold zB at D;obtain⟨O,y,q3,q4,q5⟩:=D;have ht:=cX p;have hq:qN p g=tl p-g.length+1:=by unfold qN;rfl
  have d:=bn p;have b:((bw g).natAbs:Int)<pw 10000:=by rw[aN];exact bU y _
  simp[-List.getD_eq_getElem?_getD];have e1:W ((g.length:Int)-1)=g.length-1:=aO (by omega) (by omega);have e2:W (W ((tl p:Int)-g.length)+1)=(qN p g:Int):=by rw[aO (n:=(tl p:Int)-g.length) (by omega) (by omega),aO (by omega) (by omega)];omega
  have e3:g.getD ((g.length:Int)-1).toNat 0=bw g:=by rw[aN];congr 1;omega
  have e4:max (qN p g:Int) 0=qN p g:=by omega
  rw[d,e1,e2,e3,e4,lE (p:=ae p) d.symm,aO (n:=(qN p g:Int)-1) (by omega) (by omega)];refine⟨bu O (by omega),by omega,by omega,⟨?_,⟨rfl,wy _ _⟩,by omega,λi hi=>Bg _ i (by omega)⟩,λn r q c=>⟨λE=>?_,λE=>?_⟩⟩
  . unfold oH;exact⟨by omega,by omega,d,by simp,an (fZ O) (by omega),Sa _ _ (by omega),by rw[show((qN p g:Int)-1+1).toNat=qN p g by omega]⟩
  . unfold oH at c;obtain⟨i1,i2,F,z,G,A,B⟩:=c;have R:10000+10001*((qN p g:Int)-1-n).toNat<=80007:=by omega
    rw[lE (p:=r) F.symm,lE (p:=q) z.symm,aO (n:=n+g.length) (by omega) (by omega),aO (n:=n+g.length-1) (by omega) (by omega),show(n+(g.length:Int)-1).toNat=n.toNat+g.length-1 by omega];have H:=an G R;have J:=an A R;have u:=bU H (n.toNat+g.length-1);refine⟨by omega,by omega,⟨N4 _ _,wy _ _⟩,λj r1 w=>⟨λhj=>?_,λhj=>?_⟩⟩
    . have l1:=A7 w;have X:=DW w;rw[aO (n:=j+1) (by omega) (by omega),uK (l:=r1) (by omega)];exact⟨by omega,by omega,⟨by rw[vD w];exact fX (bU H _) (by omega),fX b (by omega)⟩,by omega,by omega,yz w (by omega),by omega,jK rfl (by omega)⟩
    . have C:=Bb w (by omega);subst C;refine⟨⟨N4 _ _,wy _ _⟩,λj2 r2 x=>⟨λK=>?_,λK=>?_⟩⟩
      . have l1:=A7 x;have X:=DW x;rw[aO (n:=j2+1) (by omega) (by omega),uK (l:=r2) (by omega)];exact⟨by omega,by omega,⟨by rw[vD x];exact fX (bU J _) (by omega),fX b (by omega)⟩,by omega,by omega,yz x (by omega),by omega,jK rfl (by omega)⟩
      . have eq:=Bb x (by omega);subst eq;have lr:(og (bw g) r).length=tl p:=by rw[fo];exact F
        have L:(og (bw g) q).length=qN p g:=by rw[fo];exact z
        rw[lE (p:=og (bw g) r) lr.symm];refine⟨by omega,by omega,⟨RI _ _ _ _,wy _ _,λ_ _ _ _=>S8 _ _⟩,λm Z o=>⟨λhm=>?_,λhm=>?_⟩⟩
        . have l3:=vt o;have X:=L5 o;have M:=Hv o E hm (by omega);have e:=BO o E (by omega);have b1:=DF H b (n+m).toNat;have b2:=bQ u (bU y m.toNat);rw[<-gG]at b1 b2;have e9:pw (80007+10000+1)=4294967296*pw (80007+10000):=bD _;have e8:=bN (80007+10000);rw[aO (n:=n+m) (by omega) (by omega),aO (n:=m+1) (by omega) (by omega),uK (l:=Z) (by omega)];refine⟨by omega,by omega,by omega,⟨fX u (by omega),cP (bu y (by omega)) _⟩,⟨?_,?_⟩,by omega,by omega,M,by omega,jK rfl (by omega),λ_ _ _ _=>S8 _ _⟩
          . rw[e,vo];exact fX (k:=80007+10000+1) (by rw[e9];exact Zh b1 (by omega)) (by omega)
          . exact fX (k:=80007+10000+1) (by rw[e9];exact Zh b2 (by omega)) (by omega)
        . have C:=invSb_end o hm;have l3:=vt o;rw[aO (n:=n-1) (by omega) (by omega),lE (p:=Z) (by omega),uK (l:=og (bw g) q) L.symm];refine⟨?_,by omega,wy _ _,jK rfl L.symm⟩;have N:=nJ (i:=n.toNat) G A y;rw[E3,<-C]at N;unfold oH;refine⟨by omega,by omega,by omega,by rw[Ks];exact L,an N.1 (by omega),an N.2 (by omega),?_⟩;rw[<-B,show(n+1).toNat=n.toNat+1 by omega,divL_s,E3,<-C,show(n-1+1).toNat=n.toNat by omega]
  . unfold oH at c;obtain⟨i1,i2,F,z,G,A,B⟩:=c;rw[show(n+1).toNat=0 by omega,pK]at B;rw[K7,lE (p:=q) z.symm];have e:mz p g=ag q:=by unfold mz;rw[<-B]
    exact⟨by omega,bu A (by omega),nr e.symm⟩
 exact h
end Go.Proofs.Big
namespace Go.Proofs.Big
open Go Go.Sx Go.Proofs Tryz
variable [bW]
attribute [local irreducible] lm nv tl dg dz
def eZ(p:Ω):Ω:=iN (ag p)
def bE(p:Ω):Ω:=
 if(eZ p).length<2 then eZ p
 else if(eU (eZ p) (aX (eZ p))).length<2 then eZ p
 else mz (eZ p) (eU (eZ p) (aX (eZ p)))
def m6(p:Ω):Prop:=(bj 90 p/\p.length<=3)\/(bj 10 p/\p.length<=5/\(eU (eZ p) (aX (eZ p))).length<2)
attribute [irreducible] eZ bE m6
def c261:bB:=ow sP.dec (λa=>m6 a) (λa=>pS (bE a))
def Uq:List (Nat×bB):=(261,c261)::Um
def Tk(p:Ω):Prop:=fQ Um f261 [] [pS p] (pS (bE p))
theorem O8(p:Ω):(
 let e:=true=true
 let c:=aj
 let j:=λ(y:Ω)=>(ag (eR y)).length
 let o:=λ(y:Ω)=>iN (uR (ag (eR y)))
 let k:=λ(y:Ω)=>(o y).length
 let r:=λ(y:Ω)=>decide (↑(k y)<(2:Int))
 let f:=λ(y:Ω)(m:Nat)=>(o y).getD m 0
 let s:=λ(y:Ω)(m:Nat)=>decide ((bE y).getD m 0<0)
 let t:=λ(y:Ω)(m:Nat)=>(dz ((bE y).getD m 0)).length
 let u:=λ(y:Ω)(m z:Nat)=>(dz ((bE y).getD m 0)).getD z 0
 let v:=λ(y:Ω)=>ab 2 ((k y=(bE y).length/\∀i,i<k y->decide (f y i<0)=s y i/\((dz (f y i)).length=t y i/\∀(b:Nat),
  b<(dz (f y i)).length->(dz (f y i)).getD b 0=u y i b/\True)/\True)/\True)
 let q:=λ(y:Ω)=>∀i,i<k y->e/\c.ak (c.enc (f y i))
 let d:=λ(y:Ω)=>eR (o y)
 let g:=λ(y:Ω)=>eU (d y) (eR (aX (d y)))
 let w:=λ(y:Ω)=>decide (↑(g y).length<(2:Int))
 let h:=λ(y:Ω)=>mz (d y) (eR (g y))
 let x:=λ(y:Ω)(m:Nat)=>(dz ((h y).getD m 0)).length
 ab 2 (((∀i,i<p.length->e/\c.ak (c.enc (p.getD i 0)))/\cr (eR p))/\(0+j p<=j p/\∀i,i<j p->e)/\((∀i,i<j p->e/\
  c.ak ((λ(i:Nat)=>aj.enc ((ag (eR p)).getD i 0)) (0+i)))/\cr (uR (ag (eR p))))/\ab 2 ((r p=true->v p)/\(r p=false->True/\(q p
  /\bj 100000 (d p))/\ab 2 (((q p/\∀i,i<(aX (d p)).length->e/\c.ak (c.enc ((aX (d p)).getD i 0)))/\vR (d p) (eR (aX (d p))))/\ab
  2 ((w p=true->v p)/\(w p=false->ab 2 (((q p/\∀i,i<(g p).length->e/\c.ak (c.enc ((g p).getD i 0)))/\zB (d p) (eR (g p)))/\ab 2 (((h
  p).length=(bE p).length/\∀i,i<(h p).length->decide ((h p).getD i 0<0)=s p i/\(x p i=t p i/\∀(b:Nat),b<x p i->(dz ((h p).getD
  i 0)).getD b 0=u p i b/\True)/\True)/\True)))))))))=Tk p:=by kernel_rfl
theorem iH(p:Ω):(iN p).length=p.length:=by
 unfold iN;split
 . exact jz p
 . rfl
theorem rf{k:Nat}{p:Ω}(h:bj k p):bj k (iN p):=by
 unfold iN;split
 . exact Df h
 . exact h
theorem yU{k:Nat}{p:Ω}(h:bj k p):bj k (eZ p):=by unfold eZ;exact rf (bP h)
theorem Dw(p:Ω):(eZ p).length<=p.length:=by unfold eZ;rw[iH];exact cN p
theorem xl:∀{n:Nat}{a b:Ω},b.length<=a.length->a.length<=3->ae b=b->b.length<=n->bj (kk (3-b.length)) a->bj (kk (3-b.length)) b->bj 6463 (lT n a b)/\(lT n a b).length<=a.length
 |0,a,b,j,h,i,k,c,d=>by
  rw[mG];exact⟨an c (Em (by omega)).2,J1 _⟩
 |n+1,a,b,j,h,i,k,c,d=>by
  rw[jb];split
  . rename_i m;have e:=me i m;obtain⟨o,r,p⟩:=jf c d h e;have u:=kk_step (3-b.length);have hm:=IL (show 3-b.length+1<=3-(dh a b).length by omega);obtain⟨q,w⟩:=xl (n:=n) (a:=b) (b:=dh a b) (by omega) (by omega) p (by omega) (an d (by omega)) (an o (by omega));exact⟨q,by omega⟩
  . exact⟨an c (Em (by omega)).2,J1 _⟩
theorem H0{p q:Ω}(c:bj 100 p)(d:bj 100 q)(i:p.length<=3)(e:(ag q).length<=(ag p).length):bj 6463 (eU p q)/\(eU p q).length<=p.length:=by
 have j:=cN p;have b:=Em (show 3-(ag q).length<=3 by omega);obtain⟨h,k⟩:=xl e (by omega) (dP q) (J1 _) (an (bP c) b.1) (an (bP d) b.1);unfold eU;exact⟨rf h,by rw[iH];omega⟩
theorem LY(p:Ω):tl (eZ p)=(eZ p).length:=by
 have h:ae (eZ p)=eZ p:=by
  unfold eZ
  by_cases h:ag p=[]
  . rw[h];exact iP (.inl (Kr (by rw[iH];rfl)))
  . refine iP (.inr ?_);have b:=ic h;rw[aN]at b⊢;rw[iH];unfold iN;split
    . unfold dH;rw[J0,J5];rw[J0]at b;cases e:(ag p)[(ag p).length-1]? with
      |none=>rw[e]at b;exact absurd rfl b
      |some z=>rw[e]at b;simp only[K5,K4]at b⊢;omega
    . exact b
 rw[<-bn,h]
theorem k261:aH prog Uq:=av k312 hm func261 (by kernel_rfl) (by kernel_rfl) sP.ok (by kernel_rfl) (λ_=>[]) λa b=>by
 have h:Tk a:=by
  rw[<-O8];simp only[aA];generalize a=p at*
  try dsimp only at b
  unfold m6 at b;have y:=Dw p;have z:=LY p;have o:iN (ag p)=eZ p:=by unfold eZ;rfl
  have e:bj 90 p:=b.elim (λh=>h.1) λh=>an h.1 (by omega)
  have A:p.length<=5:=b.elim (λh=>by omega) λh=>h.2.1
  have q: ¬(eU (eZ p) (aX (eZ p))).length<2->p.length<=3:=λh=>b.elim (λh=>h.2) λk=>absurd k.2.2 h
  have c:=yU e;have r:vR (eZ p) (aX (eZ p)):=by
   have dl:∀{k:Nat},bj k (eZ p)->(aX (eZ p)).length<=(eZ p).length-1/\bj (k+1) (aX (eZ p)):=λ{k} hk=>by
    have i:=Cr hk (n:=tl (eZ p)-1) (by omega);unfold aX;refine⟨?_,fZ i⟩;rw[bn];have u:=cX (lW (eZ p) (tl (eZ p)-1));have j:(lW (eZ p) (tl (eZ p)-1)).length=tl (eZ p)-1:=by unfold lW;simp
    omega
   unfold vR;rcases b with h|h
   . have:=dl c;exact .inl ⟨an c (by omega),an this.2 (by omega),by omega,by omega⟩
   . have:=dl (yU h.1);exact .inr ⟨an (yU h.1) (by omega),this.2,by omega,by omega⟩
  simp[-List.getD_eq_getElem?_getD,o];generalize w:eZ p=P at*
  have d:bE p=if P.length<2 then P else if(eU P (aX P)).length<2 then P else mz P (eU P (aX P)):=by unfold bE;rw[w]
  refine⟨bu e (by omega),bu (bP e) (by omega),λh=>?_,λh=>⟨an c (by omega),r,λj=>?_,λj=>⟨?_,?_⟩⟩⟩
  . rw[JB (by omega)]at d;exact nr d.symm
  . rw[JA (by omega),JB (by omega)]at d;exact nr d.symm
  . have B:=q (by omega);have dl:(aX P).length<=P.length/\bj 100 (aX P):=by
     have i:=Cr c (n:=tl P-1) (by omega);unfold aX;refine⟨?_,an (fZ i) (by omega)⟩;rw[bn];have u:=cX (lW P (tl P-1));have j:(lW P (tl P-1)).length=tl P-1:=by unfold lW;simp
     omega
    have m:(ag (aX P)).length<=(ag P).length:=by
     have:=cN (aX P);rw[fw P,bn];omega
    obtain⟨x,C⟩:=H0 (an c (by omega)) dl.2 (by omega) m;unfold zB;exact⟨an c (by omega),an x (by omega),by omega,by omega,by omega⟩
  . rw[JA (by omega),JA (by omega)]at d;exact nr d.symm
 exact h
def PX:Nat->Nat
 |0=>1
 |n+1=>PX n*(n+1)
def ba(n:Int):Int:=(PX n.toNat:Int)
def qx(n k:Int):Int:=(ba n).tdiv (ba k*ba (n-k))
def sII:=iR.cons (DN .i64) sI
def sH(n i f:Int):Prop:=2<=i/\i<=max n 1+1/\f=ba (i-1)
attribute [irreducible] ba qx sH
def c387:bB:=ow sI.dec (λa=>0<=a/\a<=8) (λa=>iS (ba a))
def UQ:List (Nat×bB):=(387,c387)::Uq
def Zp(n:Int):List kM:=[⟨.unit,.list [.int .i64 (.tm 4),.int .i64 (.tm 3)],λ_ (x:Int×Int)=>sH n x.1 x.2,λ_ (x:Int×Int)=>(n+1-x.1).toNat⟩]
def T6(n:Int):Prop:=fQ Uq f387 (Zp n) [iS n] (iS (ba n))
def c386:bB:=ow sII.dec (λa=>0<=a.2/\a.2<=a.1/\a.1<=8) (λa=>iS (qx a.1 a.2))
def Ve:List (Nat×bB):=(386,c386)::UQ
def TW(n:Int)(k:Int):Prop:=fQ UQ f386 [] [iS n,iS k] (iS (qx n k))
theorem LB(n:Int):(
 let c:=ab 9 True
 ab (3:Nat) ((sH n (2:Int) (1:Int)/\(n=n/\ab (2:Nat) (sm (1:Int)/\sm (2:Int)/\c))/\True)/\∀(b d:Int),sH n b d->True/\(decide
  (b<=n)=true->ab (2:Nat) (sH n (W (b+(1:Int))) (W (d*b))/\(n+(1:Int)-W (b+(1:Int))).toNat<(n+(1:Int)-b).toNat/\(n
  =n/\ab (2:Nat) (sm (W (d*b))/\sm (W (b+(1:Int)))/\c))/\True))/\(decide (b<=n)=false->ab (2:Nat) (d=ba n/\True))))=T6 n:=by kernel_rfl
theorem Mt(n:Int)(k:Int):(
 let c:=λ(x:Int)=>True/\0<=x/\x<=8
 ab 2 (c n/\True/\c k/\True/\(True/\0<=W (n-k)/\W (n-k)<=8)/\W (ba k*ba (W (n-k)))≠0/\ab 2 (W ((ba n).tdiv (W (ba k*ba (W (n-k)))))
  =qx n k/\True)))=TW n k:=by kernel_rfl
theorem QA{n:Nat}(h:n<=9):1<=PX n/\PX n<=362880:=by
 match n,h with
 |0,_=>decide
 |1,_=>decide
 |2,_=>decide
 |3,_=>decide
 |4,_=>decide
 |5,_=>decide
 |6,_=>decide
 |7,_=>decide
 |8,_=>decide
 |9,_=>decide
theorem wO{n:Int}(h:n<=9):1<=ba n/\ba n<=362880:=by
 unfold ba;have:=QA (n:=n.toNat) (by omega);omega
theorem k387:aH prog UQ:=av k261 hm func387 (by kernel_rfl) (by kernel_rfl) sI.ok (by kernel_rfl) (λa=>Zp a) λa d=>by
 have h:T6 a:=by
  rw[<-LB];simp only[aA];generalize a=n at*
  try dsimp only at d
  simp;refine⟨by unfold sH;exact⟨by omega,by omega,by unfold ba;rfl⟩,λi f b=>?_⟩;unfold sH at b⊢;obtain⟨o,p,c⟩:=b;refine⟨λe=>?_,λe=>?_⟩
  . have j:=wO (n:=i-1) (by omega);have hm:f*i<=362880*9:=by rw[c];exact Qb j.2 (by omega) (by omega) (by omega)
    have k:0<=f*i:=by rw[c];exact Ja (by omega) (by omega)
    rw[aO (n:=i+1) (by omega) (by omega),aO (n:=f*i) (by omega) (by omega)];refine⟨⟨by omega,by omega,?_⟩,by omega⟩;rw[c];unfold ba;obtain⟨m,hm⟩:∃m,(i-1).toNat=m:=⟨_,rfl⟩;rw[show(i+1-1).toNat=m+1 by omega,hm,PX,show i=(m:Int)+1 by omega]
    push_cast
    rfl
  . have:ba (i-1)=ba n:=by
     unfold ba
     by_cases h:1<=n
     . congr 2;omega
     . rw[show(i-1).toNat=1 by omega,show n.toNat=0 by omega];rfl
    rw[c,this]
 exact h
theorem k386:aH prog Ve:=av k387 hm func386 (by kernel_rfl) (by kernel_rfl) sII.ok (by kernel_rfl) (λ_=>[]) λa c=>by
 have h:TW a.1 a.2:=by
  rw[<-Mt];simp only[aA];obtain⟨n,k⟩:=a
  try dsimp only at c
  simp;obtain⟨e,i,j⟩:=c;rw[aO (n:=n-k) (by omega) (by omega)];have m:=wO (n:=n) (by omega);have d:=wO (n:=k) (by omega);have b3:=wO (n:=n-k) (by omega);have o:ba k*ba (n-k)<=362880*362880:=Qb d.2 b3.2 (by omega) (by omega);have p:1*1<=ba k*ba (n-k):=Qb d.1 b3.1 (by omega) (by omega);rw[aO (n:=ba k*ba (n-k)) (by omega) (by omega)];have q:(ba n).tdiv (ba k*ba (n-k))<=362880/\0<=(ba n).tdiv (ba k*ba (n-k)):=by
   rw[Ky (by omega)];have r:=Z3 (a:=ba n) (ba k*ba (n-k)) (by omega);have u:=Kb (a:=ba n) (b:=ba k*ba (n-k)) (by omega) (by omega);omega
  refine⟨by omega,by omega,by omega,by omega,?_⟩;rw[aO (by omega) (by omega)];unfold qx;rfl
 exact h
def gj:Ω->Int
 |[]=>0
 |x::r=>if x=0 then gj r else aW x
def tC(p:Ω)(i:Int):Prop:=0<=i/\i<=p.length/\gj (p.drop i.toNat)=gj p
attribute [irreducible] gj tC
def c351:bB:=ow sP.dec (λa=>cr a) (λa=>iS (gj a))
def T351:List (Nat×bB):=(351,c351)::Ve
def a351(p:Ω):List kM:=[⟨.unit,.int .i64 (.tm 8),λ_ (i:Int)=>tC p i,λ_ (i:Int)=>(p.length-i).toNat⟩]
def TB(p:Ω):Prop:=fQ Ve f351 (a351 p) [pS p] (iS (gj p))
theorem Nh(p:Ω):(
 let d:=λ(x:Ω)=>x.length=x.length/\∀i,i<x.length->pW (x.getD i 0)
 let c:=λ(x:Ω)=>(↑x.length:Int)
 let e:=ab 9 True
 let f:=λ(x:Ω)(y:Int)=>aW (zz (x.getD y.toNat 0))
 let g:=λ(x:Ω)(y:Int)=>f x y !=0
 ab (2:Nat) ((tC p (0:Int)/\ab (6:Nat) (d p/\c p=c p/\sm (0:Int)/\e)/\True)/\∀(n:Int),tC p n->True/\(decide (n<c p)=true->((0
  :Int)<=n/\n<c p)/\ab (2:Nat) ((aj.ak (zc (p.getD n.toNat (0:Int)))/\fit (zz (p.getD n.toNat (0:Int))))/\ab (2:Nat) ((g p n=true->ab (2
  :Nat) (f p n=gj p/\True))/\(g p n=false->True/\tC p (W (n+(1:Int)))/\(c p-W (n+(1:Int))).toNat<(c p-n).toNat/\ab (6:Nat) (d p/\
  c p=c p/\sm (W (n+(1:Int)))/\e)/\True))))/\(decide (n<c p)=false->ab (2:Nat) ((0:Int)=gj p/\True))))=TB p:=by kernel_rfl
theorem behL_nil:gj []=0:=by unfold gj;rfl
theorem qY(x:Int)(r:Ω):gj (x::r)=if x=0 then gj r else aW x:=by rw[gj]
theorem KW{p:Ω}{i:Nat}(h:i<p.length):gj (p.drop i)=if p.getD i 0=0 then gj (p.drop (i+1))else aW (p.getD i 0):=by
 rw[Qa h,qY,J0,J4 h];rfl
theorem aab:aH prog T351:=av k386 hm func351 (by kernel_rfl) (by kernel_rfl) sP.ok (by kernel_rfl) (λa=>a351 a) λa d=>by
 have h:TB a:=by
  rw[<-Nh];simp only[aA];generalize a=p at*
  try dsimp only at d
  have o:=jC d;simp[-List.getD_eq_getElem?_getD,cP d];refine⟨by unfold tC;exact⟨by omega,by omega,rfl⟩,λi c=>?_⟩;unfold tC at c⊢;obtain⟨m,q,j⟩:=c;refine⟨λk=>?_,λk=>?_⟩
  . have b:=KW (p:=p) (i:=i.toNat) (by omega);rw[j]at b;rw[aO (n:=i+1) (by omega) (by omega)];refine⟨⟨m,k⟩,λh=>?_,λh=>?_⟩
    . rw[b,JA (λe=>h (ju.2 e))]
    . rw[JB (ju.1 h)]at b;exact⟨⟨by omega,by omega,by rw[b,show(i+1).toNat=i.toNat+1 by omega]⟩,by omega⟩
  . rw[<-j,show i.toNat=p.length by omega,List.drop_length,behL_nil]
 exact h
def RZ(p:Ω)(n i:Int):Nat->Int
 |0=>0
 |k+1=>RZ p n i k+p.getD k 0*(qx i k*(ba k*ba (n-k)))
def wJ(p:Ω)(i:Nat):Int:=RZ p (p.length-1) i (i+1)
def vj(p:Ω):Nat->Bool
 |0=>true
 |m+1=>vj p m&&decide (wJ p m<=0)
def Fb(p:Ω):Nat->Bool
 |0=>true
 |m+1=>Fb p m&&decide (0<=wJ p m)
def vY(p:Ω):Bool:=vj p p.length
def vJ(p:Ω):Bool:=Fb p p.length&& !vj p p.length
def eO(p:Ω):Prop:=bj 100 p/\p.length<=5
def mE(p:Ω)(i:Int)(x y:Bool):Prop:=0<=i/\i<=p.length/\x=vj p i.toNat/\y=Fb p i.toNat
def lY(p:Ω)(i k b:Int):Prop:=0<=k/\k<=i+1/\b=RZ p (p.length-1) i k.toNat
attribute [irreducible] RZ wJ vj Fb vY vJ eO mE lY
def c350:bB:=ow sP.dec (λa=>eO a) (λa=>.df [.bool (vY a),.bool (vJ a)])
def Vm:List (Nat×bB):=(350,c350)::T351
def YK(p:Ω):List kM:=[⟨.unit,.list [.int .i64 (.tm 5),.bool (.tm 2),.bool (.tm 3)],λ_ (x:Int×Bool×Bool)=>mE p x.1 x.2.1 x.2.2,λ_ (x:Int×Bool×Bool)=>(p.length-x.1).toNat⟩,⟨.list [.int .i64 (.tm 5),.bool (.tm 2),.bool (.tm 3)],.list [.int .i64 (.tm 7),.cod aj 0 0],λ(y:Int×Bool×Bool)(x:Int×Int)=>lY p y.1 x.1 x.2,λ(y:Int×Bool×Bool)(x:Int×Int)=>(y.1+1-x.1).toNat⟩]
def Si(p:Ω):Prop:=fQ T351 f350 (YK p) [pS p] (.df [.bool (vY p),.bool (vJ p)])
theorem Mx(p:Ω):(
 let e:=λ(m:Ω)=>m.length=m.length/\∀i,i<m.length->pW (m.getD i 0)
 let j:=λ(m:Ω)=>(↑m.length:Int)
 let f:=λ(m:Ω)=>W (j m-1)
 let g:=λ(m:Ω)=>sm (f m)
 let v:=sm (0:Int)
 let r:=ab 46 True
 let w:=ab 44 True
 let k:=List.map ar.shape ([ar.s SV.ff]++([ar.s SV.aq]++[]))
 let t:=false=false
 let o:=λ(m s:Int)(C:Ω)=>W (qx m s*W (ba s*ba (W (f C-s))))
 let h:=aj
 let d:=λ(m:Ω)(s C:Int)=>zz (m.getD s.toNat 0)*zz (o C s m)
 let c:=λ(m:Int)=>W (m+1)
 let q:=λ(m s C:Int)(D:Ω)=>zz (zz m+zz (d D s C))
 let x:=λ(m:Int)=>aW (zz m)==1
 let u:=λ(m:Ω)(s:Int)=>(j m-c s).toNat<(j m-s).toNat
 let y:=λ(m:Bool)(s:Ω)(C:Int)=>m=m/\g s/\sm (c C)/\r
 let z:=λ(m:Int)=>aW (zz m)== -1
 ab 4 ((mE p 0 true true/\(e p/\True/\true=true/\true=true/\g p/\v/\r)/\True)/\∀(n:Int)(A B:Bool),mE p n A B->True/\(decide
  (n<=f p)=true->ab 2 ((lY p n 0 0/\(e p/\True/\A=A/\B=B/\g p/\n=n/\True/\v/\w)/\k=k/\(t/\sm 0/\True)/\True)/\∀(b a:Int),
  lY p n b a->True/\(decide (b<=n)=true->(0<=b/\b<j p)/\ab 2 (((True/\True)/\0<=b/\b<=n/\n<=8)/\True/\(True/\0<=b/\b<=
  8)/\True/\(True/\0<=W (f p-b)/\W (f p-b)<=8)/\True/\(True/\fN (o n b p))/\ab 2 (((h.ak (zc (p.getD b.toNat 0))/\h.ak (zc (o n b
  p)))/\fit (zz (p.getD b.toNat 0))/\fit (zz (o n b p)))/\ab 2 (((h.ak (zc a)/\h.ak (zc (d p b n)))/\fit (zz a)/\fit (zz (d p b n)))/\ru true
  /\True/\lY p n (c b) (q a b n p)/\(n+1-c b).toNat<(n+1-b).toNat/\(e p/\True/\A=A/\B=B/\g p/\n=n/\True/\sm (c b)
  /\w)/\k=k/\(decide (zz a+zz (d p b n)<0)=decide (q a b n p<0)/\((dz (zz a+zz (d p b n))).length=(dz (q a b n p)).length/\∀(i:Nat),i
  <(dz (zz a+zz (d p b n))).length->(dz (zz a+zz (d p b n))).getD i 0=(dz (q a b n p)).getD i 0/\True)/\True)/\True))))/\(decide (b<=n)=false
  ->True/\(h.ak (zc a)/\fit (zz a))/\ab 2 ((x a=true->ab 2 (mE p (c n) false B/\u p n/\(e p/\True/\t/\y B p n)/\True))/\(x a=false->True
  /\(z a=true->ab 2 (mE p (c n) A false/\u p n/\(e p/\True/\A=A/\t/\g p/\sm (c n)/\r)/\True))/\(z a=false->True/\mE p (c n) A B
  /\u p n/\(e p/\True/\A=A/\y B p n)/\True))))))/\(decide (n<=f p)=false->(B=true->ab 3 ((A=vY p/\(!A)=vJ p/\True)/\True))/\
  (B=false->ab 3 ((A=vY p/\vJ p=false/\True)/\True)))))=Si p:=by kernel_rfl
theorem Bh(p:Ω)(n i:Int):RZ p n i 0=0:=by unfold RZ;rfl
theorem tZ(p:Ω)(n i:Int)(k:Nat):RZ p n i (k+1)=RZ p n i k+p.getD k 0*(qx i k*(ba k*ba (n-k))):=by rw[RZ]
theorem qe(p:Ω)(i:Nat):wJ p i=RZ p (p.length-1) i (i+1):=by unfold wJ;rfl
theorem xu(p:Ω)(m:Nat):vj p (m+1)=(vj p m&&decide (wJ p m<=0)):=by rw[vj]
theorem yE(p:Ω)(m:Nat):Fb p (m+1)=(Fb p m&&decide (0<=wJ p m)):=by rw[Fb]
theorem CN(p:Ω):vj p 0=true:=by unfold vj;rfl
theorem HL(p:Ω):Fb p 0=true:=by unfold Fb;rfl
theorem wgt{n i k:Int}(h:0<=k)(d:k<=i)(j:i<=n)(m:n<=4):0<=ba k*ba (n-k)/\ba k*ba (n-k)<=24/\0<=qx i k*(ba k*ba (n-k))/\qx i k*(ba k*ba (n-k))<=24:=by
 have e:n=0\/n=1\/n=2\/n=3\/n=4:=by omega
 unfold qx ba;rcases e with rfl|rfl|rfl|rfl|rfl
 . have b:k=0:=by omega
   have c:i=0:=by omega
   subst b;subst c;decide
 . have b:k=0\/k=1:=by omega
   have c:i=0\/i=1:=by omega
   rcases c with rfl|rfl<;>rcases b with rfl|rfl<;>first|omega|decide
 . have b:k=0\/k=1\/k=2:=by omega
   have c:i=0\/i=1\/i=2:=by omega
   rcases c with rfl|rfl|rfl<;>rcases b with rfl|rfl|rfl<;>first|omega|decide
 . have b:k=0\/k=1\/k=2\/k=3:=by omega
   have c:i=0\/i=1\/i=2\/i=3:=by omega
   rcases c with rfl|rfl|rfl|rfl<;>rcases b with rfl|rfl|rfl|rfl<;>first|omega|decide
 . have b:k=0\/k=1\/k=2\/k=3\/k=4:=by omega
   have c:i=0\/i=1\/i=2\/i=3\/i=4:=by omega
   rcases c with rfl|rfl|rfl|rfl|rfl<;>rcases b with rfl|rfl|rfl|rfl|rfl<;>first|omega|decide
theorem Mw{p:Ω}(h:bj 100 p){n i:Int}(b:i<=n)(c:n<=4):∀k:Nat,(k:Int)<=i+1->((RZ p n i k).natAbs:Int)<=k*(24*pw 100)
 |0,_=>by rw[Bh];simp
 |k+1,d=>by
  have e:=Mw h b c k (by omega);obtain⟨j,m,o,q⟩:=wgt (n:=n) (i:=i) (k:=k) (by omega) (by omega) b c;rw[tZ];have r:=bU h k;generalize p.getD k 0=x at*
  generalize qx i k*(ba k*ba (n-k))=w at*
  have:=bN 100;have hm:((x*w).natAbs:Int)<=24*pw 100:=by
   rw[JO]
   push_cast
   have:(x.natAbs:Int)*(w.natAbs:Int)<=pw 100*24:=Qb (by omega) (by omega) (by omega) (by omega);omega
  have u:=Int.natAbs_add_le (RZ p n i k) (x*w);rw[show((k+1:Nat):Int)*(24*pw 100)=k*(24*pw 100)+24*pw 100 by push_cast;rw[Qo,K8]];omega
theorem IM{p:Ω}(h:bj 100 p){n i:Int}(b:i<=n)(c:n<=4){k:Nat}(d:(k:Int)<=i+1):fit (RZ p n i k):=by
 have e:=Mw h b c k d;have j:(k:Int)*(24*pw 100)<=5*(24*pw 100):=Jh (by omega) (by have:=bN 100;omega);have m:pw 101=4294967296*pw 100:=bD 100;have o:=bN 100;exact fX (k:=101) (by omega) (by omega)
theorem QL{z:Int}:aW z=1↔0<z:=by unfold aW;split<;>(try split)<;>omega
theorem sgn_m1{z:Int}:aW z= -1↔z<0:=by unfold aW;split<;>(try split)<;>omega
theorem k350:aH prog Vm:=av aab hm func350 (by kernel_rfl) (by kernel_rfl) sP.ok (by kernel_rfl) (λa=>YK a) λa m=>by
 have h:Si a:=by
  rw[<-Mx];simp only[aA];generalize a=p at*
  try dsimp only at m
  unfold eO at m;obtain⟨o,M⟩:=m;simp[-List.getD_eq_getElem?_getD,-Bool.forall_bool];refine⟨by unfold mE;exact⟨by omega,by omega,by rw[Ql,CN],by rw[Ql,HL]⟩,λi x y c=>?_⟩;unfold mE at c;obtain⟨E,N,q,r⟩:=c;rw[aO (n:=(p.length:Int)-1) (by omega) (by omega)];refine⟨λF=>⟨by unfold lY;exact⟨by omega,by omega,by rw[Ql,Bh]⟩,λk b c=>?_⟩,λF=>?_⟩
  . unfold lY at c;obtain⟨j,O,u⟩:=c;have G:W ((p.length:Int)-1-k)=(p.length:Int)-1-k\/i<k:=by
     rcases(show k<=i\/i<k by omega)with h|h
     . exact .inl (aO (by omega) (by omega))
     . exact .inr h
    refine⟨λA=>?_,λA=>?_⟩
    . rw[G.resolve_right (by omega)];obtain⟨R,X,Z,w4⟩:=wgt (n:=(p.length:Int)-1) (i:=i) (k:=k) (by omega) (by omega) (by omega) (by omega);have z:=tZ p ((p.length:Int)-1) i k.toNat;rw[Int.toNat_of_nonneg j]at z;rw[aO (n:=ba k*ba ((p.length:Int)-1-k)) (by omega) (by omega),aO (n:=qx i k*(ba k*ba ((p.length:Int)-1-k))) (by omega) (by omega),aO (n:=k+1) (by omega) (by omega)];have H:=bU o k.toNat;have d:=IM o (n:=(p.length:Int)-1) (i:=i) (by omega) (by omega) (k:=k.toNat) (by omega)
      rw[<-u]at d z;have h4:=bN 100;have h3:pw 101=4294967296*pw 100:=bD 100;generalize hw:qx i k*(ba k*ba ((p.length:Int)-1-k))=w at*
      have hm:((p.getD k.toNat 0*w).natAbs:Int)<=24*pw 100:=by
       rw[JO]
       push_cast
       have:((p.getD k.toNat 0).natAbs:Int)*(w.natAbs:Int)<=pw 100*24:=Qb (by omega) (by omega) (by omega) (by omega);omega
      refine⟨⟨j,by omega⟩,⟨j,A,by omega⟩,⟨j,by omega⟩,⟨by omega,by omega⟩,by unfold fN;omega,⟨fX H (by omega),fX (k:=101) (by omega) (by omega)⟩,⟨d,fX (k:=101) (by omega) (by omega)⟩,?_,by omega⟩;unfold lY;exact⟨by omega,by omega,by rw[show(k+1).toNat=k.toNat+1 by omega];exact z.symm⟩
    . have J:k.toNat=i.toNat+1:=by omega
      have d:b=wJ p i.toNat:=by rw[qe,u,J,Int.toNat_of_nonneg E]
      have B:=IM o (n:=(p.length:Int)-1) (i:=i) (by omega) (by omega) (k:=k.toNat) (by omega);rw[<-u]at B;rw[aO (n:=i+1) (by omega) (by omega),QL,sgn_m1];have C:=xu p i.toNat;have D:=yE p i.toNat;rw[<-d,<-q]at C;rw[<-d,<-r]at D;have K:(i+1).toNat=i.toNat+1:=by omega
      unfold mE;rw[K,C,D];refine⟨B,λh=>⟨⟨by omega,by omega,?_,?_⟩,by omega⟩,λh=>⟨λL=>⟨⟨by omega,by omega,?_,?_⟩,by omega⟩,λL=>⟨⟨by omega,by omega,?_,?_⟩,by omega⟩⟩⟩
      . rw[JH (by omega)];simp
      . rw[JJ (by omega)];simp
      . rw[JJ (by omega)];simp
      . rw[JH (by omega)];simp
      . rw[JJ (by omega)];simp
      . rw[JJ (by omega)];simp
  . have e:i.toNat=p.length:=by omega
    rw[e]at q r;unfold vY vJ;subst q;subst r;refine⟨λh=>⟨rfl,by simp[h]⟩,λh=>⟨rfl,by simp[h]⟩⟩
 exact h
abbrev Rm:Arg (List Ω):=zN fm
abbrev qS(l:List Ω):SV:=Rm.enc l
def sQ:=iR.one Rm
def sQY:=iR.cons Rm (iR.one AB)
def Am:List Ω->Int×Int->Int->Int->Int
 |[],_,_,n=>n
 |p::r,y,last,n=>Am r y (if aW (cY p y)=0 then last else aW (cY p y)) (if aW (cY p y)=0\/last=0\/aW (cY p y)=last then n else n+1)
def qb(l:List Ω)(y:Int×Int):Int:=Am l y 0 0
def jO(l:List Ω)(y:Int×Int):Prop:=l.length<=10/\∀p∈l,bM p y
def im(l:List Ω)(y:Int×Int)(i n b:Int):Prop:=0<=i/\i<=l.length/\0<=n/\n<=i/\Am (l.drop i.toNat) y b n=qb l y
attribute [irreducible] Am qb jO im
def c260:bB:=ow sQY.dec (λa=>jO a.1 a.2) (λa=>iS (qb a.1 a.2))
def UB:List (Nat×bB):=(260,c260)::Vm
def a260(l:List Ω)(y:Int×Int):List kM:=[⟨.unit,.list [.int .i64 (.tm 12),.int .i64 (.tm 5),.int .i64 (.tm 6)],λ_ (x:Int×Int×Int)=>im l y x.1 x.2.1 x.2.2,λ_ (x:Int×Int×Int)=>(l.length-x.1).toNat⟩]
def Sm(l:List Ω)(y:Int×Int):Prop:=fQ Vm f260 (a260 l y) [qS l,yS y] (iS (qb l y))
theorem N9(l:List Ω)(y:Int×Int):(
 let q:=sm (0:Int)
 let j:=λ(y:List Ω)=>y.length
 let v:=λ(y:List Ω)(m:Nat)=>(y.getD m []).length
 let w:=λ(y:List Ω)=>j y=j y/\∀i,i<j y->(sm (v y i)/\∀(H:Nat),H<v y i->pW ((y.getD i []).getD H 0))/\True
 let d:=λ(y:List Ω)=>(↑(j y):Int)
 let x:=ab 24 True
 let r:=λ(y:Int×Int)=>decide (y.fst<0)
 let t:=λ(y:Int×Int)=>(dz y.fst).length
 let E:=λ(y:Int×Int)(m:Nat)=>(aF IntKind.u32).enc ((dz y.fst).getD m 0)
 let z:=λ(y:Int×Int)=>SV.bF 1 (t y) λi=>E y i
 let g:=λ(y:Int×Int)=>y.snd
 let A:=λ(y:Int×Int)=>List.map ar.shape [ar.s (SV.bool (r y)),ar.s (z y),ar.s (SV.int .i64 (g y))]
 let h:=λ(y:Int×Int)=>A y=A y/\(sm (r y)/\(sm (t y)/\∀i,i<t y->sm ((dz y.fst).getD i 0)/\True)/\g y=g y/\True)/\True
 let k:=λ(y:List Ω)(m:Int)=>y.getD m.toNat []
 let B:=λ(y:Int×Int)=>(zz y.fst,g y)
 let e:=λ(y:List Ω)(m:Int)(s:Int×Int)=>aW (cY (eR (k y m)) (B s))
 let f:=λ(y:List Ω)(m:Int)(s:Int×Int)=>e y m s !=0
 let C:=λ(y:Int)=>y !=0
 let D:=λ(y:List Ω)(m s:Int)(J:Int×Int)=>e y m J !=s
 let c:=λ(y:Int)=>W (y+1)
 let o:=λ(y:List Ω)(m:Int)=>(d y-c m).toNat<(d y-m).toNat
 let p:=λ(y:List Ω)(m:Int)=>ab 3 (w y/\d y=d y/\sm (c m)/\x)
 let u:=λ(y:List Ω)(m s J:Int)(G:Int×Int)=>(f y m G=true->ab 2 (im y G (c m) s (e y m G)/\o y m/\ab 5 (s=s/\sm (e y m
  G)/\p y m)/\h G))/\(f y m G=false->True/\im y G (c m) s J/\o y m/\ab 5 (s=s/\J=J/\p y m)/\h G)
 ab 3 ((im l y 0 0 0/\ab 5 (q/\q/\ab 3 (w l/\d l=d l/\q/\x))/\h y)/\∀(n F b:Int),im l y n F b->True/\(decide (n<d l)=true->
  (0<=n/\n<d l)/\ab 3 ((((∀i,i<(k l n).length->true=true/\aj.ak (aj.enc ((k l n).getD i 0)))/\cR.ak [SV.bool (r y),z y,SV.int .i64
  (g y)])/\bM (eR (k l n)) (B y))/\True/\(f l n y=true->(C b=true->True/\(D l n b y=true->ab 2 ((f l n y=true->ab 2 (im l y (c n) (c
  F) (e l n y)/\o l n/\ab 5 (sm (c F)/\sm (e l n y)/\p l n)/\h y))/\(f l n y=false->True/\im l y (c n) (c F) b/\o l n/\ab 5 (sm (c F)/\
  b=b/\p l n)/\h y)))/\(D l n b y=false->True/\u l n F b y))/\(C b=false->ab 2 (u l n F b y)))/\(f l n y=false->ab 2 (u l n F
  b y))))/\(decide (n<d l)=false->ab 2 (F=qb l y/\True))))=Sm l y:=by kernel_rfl
theorem ub(y:Int×Int)(a n:Int):Am [] y a n=n:=by unfold Am;rfl
theorem E6(p:Ω)(r:List Ω)(y:Int×Int)(a n:Int):Am (p::r) y a n=Am r y (if aW (cY p y)=0 then a else aW (cY p y)) (if aW (cY p y)=0\/a=0\/aW (cY p y)=a then n else n+1):=by rw[Am]
theorem tV(l:List Ω)(y:Int×Int):qb l y=Am l y 0 0:=by unfold qb;rfl
theorem E5{l:List Ω}{y:Int×Int}{i n a:Int}(h:im l y i n a)(d:i<l.length):im l y (i+1) (if aW (cY (l.getD i.toNat []) y)=0\/a=0\/aW (cY (l.getD i.toNat []) y)=a then n else n+1) (if aW (cY (l.getD i.toNat []) y)=0 then a else aW (cY (l.getD i.toNat []) y)):=by
 unfold im at h⊢;obtain⟨e,j,k,m,c⟩:=h;refine⟨by omega,by omega,by split<;>omega,by split<;>omega,?_⟩;have b:i.toNat<l.length:=by omega
 rw[Qa b,E6]at c;rw[show(i+1).toNat=i.toNat+1 by omega,J0,J4 b];exact c
theorem Uy{l:List Ω}{y:Int×Int}{i n a:Int}(h:im l y i n a):0<=i/\i<=l.length/\0<=n/\n<=i:=by
 unfold im at h;exact⟨h.1,h.2.1,h.2.2.1,h.2.2.2.1⟩
theorem k260:aH prog UB:=av k350 hm func260 (by kernel_rfl) (by kernel_rfl) sQY.ok (by kernel_rfl) (λa=>a260 a.1 a.2) λa j=>by
 have h:Sm a.1 a.2:=by
  rw[<-N9];simp only[aA];obtain⟨l,y⟩:=a
  try dsimp only at j
  unfold jO at j;obtain⟨r,m⟩:=j;simp[-List.getD_eq_getElem?_getD];refine⟨by unfold im;exact⟨by omega,by omega,by omega,by omega,by rw[tV];rfl⟩,λi n a c=>?_⟩;obtain⟨o,u,b3,b4⟩:=Uy c;refine⟨λk=>?_,λk=>?_⟩
  . have b:=E5 c k;have e:bM (l.getD i.toNat []) (y.1,y.2):=by
     rw[J0,J4 (by omega)];exact m _ (Ku _)
    rw[aO (n:=i+1) (by omega) (by omega),aO (n:=n+1) (by omega) (by omega)]
    change _/\(cR.ak _/\bM _ y)/\_
    generalize w:aW (cY (l.getD i.toNat []) y)=s at*
    refine⟨⟨o,k⟩,⟨cR.kW y,e⟩,λd=>⟨λp=>⟨λq=>⟨λ_=>?_,λh=>absurd h d⟩,λq=>⟨λ_=>?_,λh=>absurd h d⟩⟩,λp=>⟨λ_=>?_,λh=>absurd h d⟩⟩,λd=>⟨λh=>absurd d h,λ_=>?_⟩⟩
    . rw[JA (by omega),JA d]at b;exact⟨b,by omega⟩
    . rw[JB (by omega),JA d]at b;exact⟨b,by omega⟩
    . rw[JB (by omega),JA d]at b;exact⟨b,by omega⟩
    . rw[JB (by omega),JB d]at b;exact⟨b,by omega⟩
  . unfold im at c;rw[<-c.2.2.2.2,Y6 (by omega),ub]
 exact h
def Vs:Nat->Ω->Ω->List Ω
 |0,_,_=>[]
 |k+1,a,b=>if b.length=0 then []else b::Vs k b (dH (dh a b))
def wB(p:Ω):Ω:=ag (aX (bE p))
def bC(p:Ω):List Ω:=if(bE p).length=0 then []else bE p::Vs (wB p).length (bE p) (wB p)
def aaA(p:Ω)(l:List Ω)(a b:Ω):Prop:=a.length<=5/\b.length<=4/\bj (ks b.length) a/\bj (ks b.length) b/\ae b=b/\l.length+b.length<=5/\l++Vs b.length a b=bC p
attribute [irreducible] Vs wB bC aaA
def c259:bB:=ow sP.dec (λa=>m6 a) (λa=>qS (bC a))
def Wh:List (Nat×bB):=(259,c259)::UB
def ZE(p:Ω):List kM:=[⟨.unit,.list [.ah fm 0 218 [.tm 4],.fogT [12],.fz1 5,.rosL aj (.tm 3),.rosL aj (.tm 5)],λ_ (x:List Ω×Unit×Unit×Ω×Ω)=>aaA p x.1 x.2.2.2.1 x.2.2.2.2,λ_ (x:List Ω×Unit×Unit×Ω×Ω)=>x.2.2.2.2.length⟩]
def TK(p:Ω):Prop:=fQ UB f259 (ZE p) [pS p] (qS (bC p))
theorem Mc(p:Ω):(
 let k:=λ(x:Ω)=>x.length
 let o:=true=true
 let d:=aj
 let D:=λ(x:Ω)(m:Nat)=>d.enc (x.getD m 0)
 let E:=λ(x:Ω)=>∀i,i<k x->o/\d.ak (D x i)
 let c:=λ(x:Ω)=>eR x
 let q:=λ(x:Ω)=>(bE (c x)).length
 let L:=λ(x:Ω)=> ↑(q x)==(0:Int)
 let r:=λ(x:Ω)(m:Nat)=>(bE (c x)).getD m 0
 let g:=λ(x:Ω)=>eR (bE (c x))
 let s:=λ(x:Ω)=>ag (eR (aX (g x)))
 let t:=λ(x:Ω)=>(s x).length
 let v:=fm
 let c4:=λ(x:Ω)=>λi=>d.enc (r x i)
 let w:=λ(m:Ω)=>ah v 1 λx=>[SV.bF 2 (q m) (c4 m)]
 let y:=λ(x:Ω)(m:Nat)=>(dz (r x m)).length
 let F:=sm 0
 let M:=λ(x:Ω)=>1=(w x).length
 let z:=λ(x:Ω)(m:Nat)=>(s x).getD (0+m) 0
 let N:=λ(x:Ω)(m:Nat)=>dz ((uR (s x)).getD m 0)
 let O:=ab 23 True
 let P:=([]:List (Option (Nat×Nat)))
 let G:=P=P
 let Q:=1=v.n
 let h:=([]:Ω)
 let H:=λ(x:Ω)(m x1:Nat)=>((w x).getD m h).getD x1 0
 let R:=λ(x:Ω)=>G/\((sm (t x)/\sm 2/\∀i,i<t x->pW ((s x).getD i 0))/\True)/\True
 let T:=λ(x:Ω)=>decide (↑(k x)>(0:Int))
 let e:=λ(x:List Ω)=>x.length
 let u:=λ(x:List Ω)=>e x+1
 let A:=λ(x m:Ω)=>dh (c x) (c m)
 let J:=λ(x:List Ω)(m:Nat)=>x.getD m h
 let B:=λ(x:List Ω)(m:Ω)=>ah v (u x) λj=>af (decide (j<e x)) (v.enc (J x j)) [SV.bF 2 (k m) (D m)]
 let f:=λ(x m:Ω)=>dH (eR (A x m))
 let c0:=λ(x:List Ω)(m:Ω)=>u x=(B x m).length
 let c1:=λ(x m:Ω)(x1:Nat)=>(dz ((f x m).getD x1 0)).length
 let c2:=λ(x:Nat)(m:List Ω)(x1:Ω)=>if decide (x<e m)=true then(J m x).length else k x1
 let c3:=λ(x:List Ω)(m:Nat)=>(x.getD (0+m) h).length
 let C:=λ(x:List Ω)(m x1:Nat)=>(x.getD (0+m) h).getD x1 0
 let K:=λ(x:Ω)(m x1:Nat)=>((bC x).getD m h).getD x1 0
 ab 2 ((E p/\m6 (c p))/\ab 2 ((L p=true->ab 2 ((bC p).length=0/\True))/\(L p=false->ab 2 (((∀i,i<q p->o/\d.ak (d.enc (r p
  i)))/\bj 100000 (g p))/\True/\((∀i,i<(aX (g p)).length->o/\d.ak (d.enc ((aX (g p)).getD i 0)))/\cr (eR (aX (g p))))/\True/\(0+t
  p<=t p/\∀i,i<t p->o)/\(aaA p (w p) (g p) (uR (s p))/\ab 3 ((q p=(g p).length/\∀i,i<q p->decide (r p i<0)=decide ((g p).getD
  i 0<0)/\(y p i=(dz ((g p).getD i 0)).length/\∀(X:Nat),X<y p i->(dz (r p i)).getD X 0=(dz ((g p).getD i 0)).getD X 0/\True)/\True)/\(F/\
  M p)/\(t p=(uR (s p)).length/\∀i,i<t p->decide (z p i<0)=decide ((uR (s p)).getD i 0<0)/\((dz (z p i)).length=(N p i).length/\∀(X
  :Nat),X<(dz (z p i)).length->(dz (z p i)).getD X 0=(N p i).getD X 0/\True)/\True)/\O)/\G/\((M p/\Q/\∀i,i<1->(q p=((w p).getD i
  h).length/\∀(X:Nat),X<q p->decide (r p X<0)=decide (H p i X<0)/\(y p X=(dz (H p i X)).length/\∀(ac:Nat),ac<y p X->(dz (r
  p X)).getD ac 0=(dz (H p i X)).getD ac 0/\True)/\True)/\True)/\True)/\R p)/\∀(l:List Ω)(Z b:Ω),aaA p l Z b->True
  /\(T b=true->1<=1/\(∀(j:Nat),j<1->o)/\(F/\e l=e l/\u l<=140737488355328/\u l*24<=140737488355328)/\ab 3 (((E Z/\E b)/\ov (c Z)
  (c b))/\True/\((∀i,i<(A Z b).length->o/\d.ak (d.enc ((A Z b).getD i 0)))/\cr (eR (A Z b)))/\ab 2 (aaA p (B l b) (c b)
  (eR (f Z b))/\(eR (f Z b)).length<k b/\ab 3 ((k b=(c b).length/\∀i,i<k b->decide (b.getD i 0<0)=decide ((c b).getD
  i 0<0)/\((dz (b.getD i 0)).length=(dz ((c b).getD i 0)).length/\∀(X:Nat),X<(dz (b.getD i 0)).length->(dz (b.getD i 0)).getD X 0=(dz
  ((c b).getD i 0)).getD X 0/\True)/\True)/\(F/\c0 l b)/\((f Z b).length=(eR (f Z b)).length/\∀i,i<(f Z b).length->decide ((f
  Z b).getD i 0<0)=decide ((eR (f Z b)).getD i 0<0)/\(c1 Z b i=(dz ((eR (f Z b)).getD i 0)).length/\∀(X:Nat),X<c1 Z b i->
  (dz ((f Z b).getD i 0)).getD X 0=(dz ((eR (f Z b)).getD i 0)).getD X 0/\True)/\True)/\O)/\G/\((c0 l b/\Q/\∀i,i<u l->(c2 i l
  b=((B l b).getD i h).length/\∀(X:Nat),X<c2 i l b->bK (if decide (i<e l)=true then d.enc ((J l i).getD X 0)else D b X) (d.enc (((B
  l b).getD i h).getD X 0)))/\True)/\True)/\R p)))/\(T b=false->True/\(0+e l<=e l/\∀i,i<e l->o)/\(e l=(bC p).length/\∀(i:
  Nat),i<e l->(c3 l i=((bC p).getD i h).length/\∀(X:Nat),X<c3 l i->decide (C l i X<0)=decide (K p i X<0)/\((dz (C l i X)).length
  =(dz (K p i X)).length/\∀(ac:Nat),ac<(dz (C l i X)).length->(dz (C l i X)).getD ac 0=(dz (K p i X)).getD ac 0/\True)/\True)/\True)/\True))))))=TK p:=by kernel_rfl
theorem zh(a b:Ω):Vs 0 a b=[]:=by unfold Vs;rfl
theorem rN(k:Nat)(a b:Ω):Vs (k+1) a b=if b.length=0 then []else b::Vs k b (dH (dh a b)):=by rw[Vs]
theorem CU(k:Nat)(a:Ω):Vs k a []=[]:=by
 cases k with
 |zero=>exact zh _ _
 |succ k=>rw[rN];rfl
theorem Yr{p:Ω}(h:ae p=p):ae (dH p)=dH p:=by
 by_cases c:p=[]
 . subst c;exact iP (.inl (by unfold dH;rfl))
 . refine iP (.inr ?_);have b:=lQ (p:=p) (by rw[h];exact Xa.2 c);rw[h]at b;rw[aN]at b⊢;rw[jz];unfold dH;rw[J0,J5];rw[J0]at b;cases e:p[p.length-1]? with
   |none=>rw[e]at b;exact absurd rfl b
   |some z=>rw[e]at b;simp only[K5,K4]at b⊢;omega
theorem rY{m:Nat}{a b:Ω}(d:bj m a)(e:bj m b)(h:a.length<=5)(i:ae b=b)(j:0<b.length):bj (m+5*(m+1)) (dH (dh a b))/\(dH (dh a b)).length<b.length/\ae (dH (dh a b))=dH (dh a b)/\bj (m+5*(m+1)) (dh a b):=by
 obtain⟨c,k,o⟩:=remP_facts5 d e h (me i j);exact⟨Df c,by rw[jz];exact k,Yr o,c⟩
theorem xV{m:Nat}:∀{n:Nat}{a b:Ω},a.length<=5->b.length<=5->ae b=b->b.length<=n->bj m a->bj m b->Vs n a b=Vs b.length a b
 |0,a,b,_,_,_,h,_,_=>by rw[show b.length=0 by omega]
 |n+1,a,b,e,d,i,h,j,c=>by
  by_cases k:0<b.length
  . obtain⟨q,o⟩:∃q,b.length=q+1:=⟨b.length-1,by omega⟩;obtain⟨f1,f2,f3,_⟩:=rY j c e i k;rw[o,rN,rN,JA (by omega),JA (by omega)];rw[xV (m:=m+5*(m+1)) d (by omega) f3 (by omega) (an c (by omega)) f1];rw[xV (n:=q) (m:=m+5*(m+1)) d (by omega) f3 (by omega) (an c (by omega)) f1]
  . rw[show b=[]from Kr (by omega),CU,CU]
theorem jg{k:Nat}{p:Ω}(h:bj k p)(c:p.length<=5):bj (k+1) (aX p)/\(aX p).length<=p.length-1:=by
 have b:=Cr h (n:=tl p-1) (by have:=cX p;omega);unfold aX;refine⟨fZ b,?_⟩;rw[bn];have d:=cX (lW p (tl p-1));have e:(lW p (tl p-1)).length=tl p-1:=by unfold lW;simp
 have:=cX p;omega
theorem zX(p:Ω):ae (eZ p)=eZ p:=by
 have h:=LY p;rw[dq,h];exact Jz (J1 _)
theorem U1{P:Ω}(p:P.length<=3)(i:bj 90 P)(h: ¬(eU P (aX P)).length<2):bj 91 (eU P (aX P))/\(eU P (aX P)).length<=P.length:=by
 obtain⟨d1,d2⟩:=jg i (by omega);have q:=cN (aX P);have c:=cN P;have j:eU P (aX P)=iN (lT (ag (aX P)).length (ag P) (ag (aX P))):=by unfold eU;rfl
 rw[j,iH]at h;rw[j,iH];have k:=bP i;have m:=bP d1;have d:=dP (aX P);generalize ag P=A at*
 generalize ag (aX P)=B at*
 have key:lT B.length A B=A\/lT B.length A B=B:=by
  rcases(show B.length=0\/B.length=1\/B.length=2 by omega)with b|b|b
  . rw[b,mG];exact .inl rfl
  . rw[b,jb,JB (by omega),mG];exact .inr rfl
  . rw[b,jb,JB (by omega),jb]at h⊢;obtain⟨_,r,_⟩:=jf (an k (by omega)) m (by omega) (me d (by omega));split
    . rename_i o;rw[JB o,mG]at h;omega
    . exact .inr rfl
 rcases key with e|e
 . rw[e];exact⟨rf (an k (by omega)),c⟩
 . rw[e];exact⟨rf m,by omega⟩
theorem np(k n:Nat)(b:n<=1000):bj k (List.replicate n 0):=by
 refine jd (by simpa using b) λz c=>?_
 rw[(List.mem_replicate.1 c).2];simpa using bN k
theorem freeL_facts3{p:Ω}(h:bj 90 p/\p.length<=3):(bE p).length<=3/\bj 319 (bE p)/\ae (bE p)=bE p:=by
 obtain⟨o,z⟩:=h;have b:=yU o;have A:=Dw p;have j:=zX p;have u:bE p=if(eZ p).length<2 then eZ p else if(eU (eZ p) (aX (eZ p))).length<2 then eZ p else mz (eZ p) (eU (eZ p) (aX (eZ p))):=by unfold bE;rfl
 rw[u];generalize eZ p=P at*
 split
 . exact⟨by omega,an b (by omega),j⟩
 . split
   . exact⟨by omega,an b (by omega),j⟩
   . rename_i w;obtain⟨c,B⟩:=U1 (by omega) b w;generalize eU P (aX P)=G at*
     have C:qN P G<=2:=by unfold qN;have:=cX P;omega
     have x:bj 319 (oY G (qN P G) (ae P,List.replicate (qN P G) 0)).2/\(oY G (qN P G) (ae P,List.replicate (qN P G) 0)).2.length=qN P G:=by
      have k:bj 90 (ae P):=fZ b;rcases(show qN P G=0\/qN P G=1\/qN P G=2 by omega)with e|e|e
      . rw[e,pK];exact⟨np _ _ (by omega),by simp⟩
      . rw[e,divL_s,pK];obtain⟨m,d⟩:=nJ (i:=0) k (np 90 1 (by omega)) c;exact⟨an d (by omega),by unfold ph;simp[fo]⟩
      . rw[e,divL_s,divL_s,pK];obtain⟨m,d⟩:=nJ (i:=1) k (np 90 2 (by omega)) c;obtain⟨D,y⟩:=nJ (i:=0) (r:=(ph G 1 (ae P,List.replicate 2 0)).1) (q:=(ph G 1 (ae P,List.replicate 2 0)).2) m d c;exact⟨an y (by omega),by unfold ph;simp[fo]⟩
     have e:mz P G=ag (oY G (qN P G) (ae P,List.replicate (qN P G) 0)).2:=by unfold mz;rfl
     rw[e];exact⟨by have:=cN (oY G (qN P G) (ae P,List.replicate (qN P G) 0)).2;omega,bP x.1,dP _⟩
theorem freeL_sq{p:Ω}(h:(eU (eZ p) (aX (eZ p))).length<2):bE p=eZ p:=by
 have b:bE p=if(eZ p).length<2 then eZ p else if(eU (eZ p) (aX (eZ p))).length<2 then eZ p else mz (eZ p) (eU (eZ p) (aX (eZ p))):=by unfold bE;rfl
 rw[b,JB h];split<;>rfl
theorem ma{p:Ω}(h:m6 p):(bE p).length<=5/\bj 319 (bE p)/\ae (bE p)=bE p/\((bE p).length<=3\/bj 10 (bE p)):=by
 unfold m6 at h;rcases h with h|⟨b,d,c⟩
 . obtain⟨f1,f2,f3⟩:=freeL_facts3 h;exact⟨by omega,f2,f3,.inl f1⟩
 . rw[freeL_sq c];exact⟨by have:=Dw p;omega,an (yU b) (by omega),zX p,.inr (yU b)⟩
theorem chB_facts{p:Ω}(h:m6 p):bj 320 (aX (bE p))/\(wB p).length<=4/\ae (wB p)=wB p/\bj (ks (wB p).length) (bE p)/\bj (ks (wB p).length) (wB p):=by
 obtain⟨f1,f2,f3,f4⟩:=ma h;obtain⟨d1,d2⟩:=jg f2 f1;have b:=cN (aX (bE p));have c:=(ks_le (ag (aX (bE p))).length).1;unfold wB;refine⟨d1,by omega,dP _,?_⟩;rcases f4 with f4|f4
 . have:605<=ks (ag (aX (bE p))).length:=by
    rcases(show(ag (aX (bE p))).length=0\/(ag (aX (bE p))).length=1\/(ag (aX (bE p))).length=2 by omega)with e|e|e<;>rw[e]<;>decide
   exact⟨an f2 (by omega),an (bP d1) (by omega)⟩
 . exact⟨an f4 (by omega),bP (an (jg f4 f1).1 (by omega))⟩
theorem AY(p:Ω):fm.dec [SV.bF 2 p.length λi=>aj.enc (p.getD i 0)]=some p:=fm.self p
theorem Vt(p:Ω):(ah fm 1 λx=>[SV.bF 2 p.length λi=>aj.enc (p.getD i 0)])=[p]:=xY (C:=fm) (n:=1) (AY p)
theorem Tg(l:List Ω)(p:Ω):(ah fm (l.length+1) λj=>af (decide (j<l.length)) (fm.enc (l.getD j [])) [SV.bF 2 p.length λi=>aj.enc (p.getD i 0)])=l++[p]:=vQ (C:=fm) (AY p)
theorem k259:aH prog Wh:=av k260 hm func259 (by kernel_rfl) (by kernel_rfl) sP.ok (by kernel_rfl) (λa=>ZE a) λa d=>by
 have h:TK a:=by
  rw[<-Mc];simp only[aA];generalize a=p at*
  try dsimp only at d
  simp[-List.getD_eq_getElem?_getD,Vt,Tg];obtain⟨f1,f2,f3,_⟩:=ma d;obtain⟨C,L,b3,b4,D⟩:=chB_facts d;have E:ag (aX (bE p))=wB p:=by unfold wB;rfl
  have r:bC p=if(bE p).length=0 then []else bE p::Vs (wB p).length (bE p) (wB p):=by unfold bC;rfl
  rw[E];refine⟨d,λh=>by rw[r,h];rfl,λh=>?_⟩;have M:0<(bE p).length:=Xa.2 h;rw[JA (by omega)]at r;refine⟨an f2 (by omega),bu C (by omega),⟨?_,rfl,rfl,λi e=>⟨J9,rfl,λ_ _=>rfl⟩⟩,λl a b c=>?_⟩
  . unfold aaA;exact⟨f1,by omega,b4,D,b3,by simp;omega,by rw[r];rfl⟩
  . unfold aaA at c;obtain⟨F,G,w,k,x,N,u⟩:=c;refine⟨λo=>?_,λo=>?_⟩
    . obtain⟨y,z,A,H⟩:=rY w k F x o;have O:=(ks_le b.length).2;have B:=ks_step z G;have R:=(ks_le (dH (dh a b)).length).2;refine⟨⟨by omega,by omega⟩,?_,bu H (by omega),?_,z,rfl,λi e=>⟨?_,λj J=>?_⟩⟩
      . unfold ov;exact⟨an w (by omega),an k (by omega),by omega,by omega,me x o⟩
      . unfold aaA;refine⟨by omega,by omega,an k B.2,an y B.1,A,by simp;omega,?_⟩;rw[<-u];obtain⟨q,K⟩:∃q,b.length=q+1:=⟨b.length-1,by omega⟩;rw[K,rN,JA (by omega),xV (n:=q) (m:=ks b.length+5*(ks b.length+1)) (by omega) (by omega) A (by omega) (an k (by omega)) y];simp
      . rw[xA e];split<;>rfl
      . rw[xA e];split
        . exact aj.ok _ _ (aj.self _) (aj.kW _)
        . exact aj.ok _ _ (aj.self _) (aj.kW _)
    . subst o;rw[CU,Kw]at u;rw[u];exact⟨rfl,λi e=>⟨rfl,λj J=>⟨J9,rfl,λ_ _=>rfl⟩⟩⟩
 exact h
end Go.Proofs.Big
