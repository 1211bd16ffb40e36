import Derived.Test.YtpjiopgakifhaaaGreatRA
import Derived.Test.YtpjiopgakifhaaaGreatRJ
import Derived.Test.YtpjiopgakifhaaaGreatRS
set_option linter.unusedSectionVars false
set_option linter.unusedSimpArgs false
set_option linter.unusedVariables false
set_option maxRecDepth 100000
namespace Go.Proofs.Big
open Go Go.Sx Go.Proofs Tryz
variable [bW]
set_option maxHeartbeats 4000000
attribute [local irreducible] lm nv tl dg dz
def RE(l:List Ω):List Ω:=ah fm l.length λi=>fm.enc (l.getD ((0:Nat)+i) ([]:Ω))
def ofN(y:Int×Int):ao:=([-(eV y.1 y.2).1,2^(eV y.1 y.2).2.toNat],eV y.1 y.2,eV y.1 y.2)
def vT(y:Int×Int):Prop:=pL y.1 y.2/\dp (eV y.1 y.2)
def bq(c:List Ω):List Ω:=(c.map ae).filter λp=> !vJ p
def fD(c:List Ω):Bool:=(c.map ae).any vY
def uA(c:List Ω):Bool:=(bq c).all λp=>decide (0<gj p)
def mZ(b:List ao)(i:Nat):Int×Int:=dj (b.getD i d0).2.2 (if i+1<b.length then(b.getD (i+1) d0).2.1 else y1)
def jS(o:List Ω)(y:Int×Int):Bool:=o.all λp=>decide (0<aW (cY p y))
def Tb(o:List Ω)(b:List ao):Nat->Nat->ao×Bool
 |0,_=>(d0,false)
 |k+1,i=>if jS o (mZ b i)then(b.getD i d0,true)else Tb o b k (i+1)
def aJ(c:List Ω):ao×Bool:=if fD c then(d0,false)else if uA c then(ofN (0,0),true)else
 Tb (bq c) (aC ((bq c).getD 0 [])) (aC ((bq c).getD 0 [])).length 0
def lP(c:List Ω):Prop:=c.length<=10/\(∀p∈c,eO p)/\(fD c=false->uA c=false->qJ (bq c)/\(aC ((bq c).getD 0 [])).length<=2/\
 ∀i,i<(aC ((bq c).getD 0 [])).length->dp ((aC ((bq c).getD 0 [])).getD i d0).2.1/\dp ((aC ((bq c).getD 0 [])).getD i d0).2.2/\∀p∈bq c,bM p (mZ (aC ((bq c).getD 0 [])) i))
def kL(c:List Ω)(i:Int)(o:List Ω)(b:Bool):Prop:=0<=i/\i<=c.length/\fD (c.take i.toNat)=false/\o=bq (c.take i.toNat)/\b=uA (c.take i.toNat)
def eA(c:List Ω)(i:Int):Prop:=0<=i/\i<=(aC ((bq c).getD 0 [])).length/\fD c=false/\uA c=false/\aJ c=Tb (bq c) (aC ((bq c).getD 0 [])) ((aC ((bq c).getD 0 [])).length-i.toNat) i.toNat
def cW(o:List Ω)(y:Int×Int)(j:Int):Prop:=0<=j/\j<=o.length/\jS (o.take j.toNat) y=true
attribute [irreducible] ofN vT bq fD uA mZ jS Tb aJ lP kL eA cW
def sY1:=iR.one AB
def c352:bB:=ow sY1.dec (λa=>vT a) (λa=>nS (ofN a))
def UC:List (Nat×bB):=(352,c352)::Wi
def SW(y:Int×Int):Prop:=fQ Wi f352 [] [yS y] (nS (ofN y))
def c258r:bB:=ow sP.dec (λa=>cr a) (λa=>pS (ae a))
def Pc:List (Nat×bB):=(258,c258r)::UC
def T3(p:Ω):List kM:=[⟨.unit,.list [.int .i64 (.tm 15),.iQ aj (tl p) 0 0],λ_ (x:Int×Ω)=>eI p x.1 x.2,λ_ (x:Int×Ω)=>(tl p-x.1).toNat⟩]
def ON(p:Ω):Prop:=fQ UC f258 (T3 p) [pS p] (pS (ae p))
def c285:bB:=ow sQ.dec (λa=>lP a) (λa=>.df [nS (aJ a).1,.bool (aJ a).2])
def VY:List (Nat×bB):=(285,c285)::Pc
def aaj(c:List Ω):List kM:=[⟨.unit,.list [.int .i64 (.tm 19),.ah fm 1 218 [.tm 4],.bool (.tm 5)],λ_ (x:Int×List Ω×Bool)=>kL c x.1 x.2.1 x.2.2,λ_ (x:Int×List Ω×Bool)=>(c.length-x.1).toNat⟩,⟨.unit,.list [.int .i64 (.tm 52)],λ_ (x:Int)=>eA c x,λ_ (x:Int)=>((aC ((bq c).getD 0 [])).length-x).toNat⟩,⟨.int .i64 (.tm 52),.list [.int .i64 (.tm 75)],λ(i:Int)(x:Int)=>cW (bq c) (mZ (aC ((bq c).getD 0 [])) i.toNat) x,λ(i:Int)(x:Int)=>((bq c).length-x).toNat⟩]
def TC(c:List Ω):Prop:=fQ Pc f285 (aaj c) [qS c] (.df [nS (aJ c).1,.bool (aJ c).2])
theorem Mv(y:Int×Int):(
 let p:=λ(x:Int×Int)=>eV (zz x.fst) x.snd
 let c:=λ(x:Int×Int)=>(p x).fst
 let d:=aF IntKind.u32
 let w:=λ(x:Nat)=>d.enc ([1].getD x 0)
 let q:=λi=>w i
 let r:=zv false (ah d 1 q)
 let e:=λ(x:Int×Int)=>(p x).snd
 let f:=λ(x:Int×Int)=>(ofN x).fst
 let k:=λ(x:Nat)=>decide (0+x=1)
 let o:=λ(x:Int×Int)=>r*2^(e x).toNat
 let s:=λ(x:Nat)=>decide (0+x=0)
 let t:=λ(x:Int×Int)=>dz (-zz (eV (zz x.fst) x.snd).fst)
 let u:=λ(x:Nat)(y:Int×Int)=>if k x=true then(dz (o y)).length else if s x=true then(t y).length else 0
 let v:=λ(x:Int×Int)=>(ofN x).snd
 let g:=λ(x:Int×Int)=>(v x).fst
 let h:=λ(x:Int×Int)=>(dz (c x)).length
 let j:=λ(x:Int×Int)=>(v x).snd
 ab 3 (((aj.ak (zc y.fst)/\True)/\pL (zz y.fst) y.snd)/\ab 2 ((aj.ak (zc (c y))/\fit (zz (c y)))/\True/\(True/\fN 1)/\ab 2 (((aj.ak
  [SV.bool false,SV.bF 1 1 q]/\True)/\fit r/\di (e y))/\ru true/\(2<=2/\∀i,i<2->true=true)/\ab 6 (((2=(f y).length/\∀(i:Nat),
  i<2->(if k i=true then decide (o y<0)else if s i=true then decide (-zz (eV (zz y.fst) y.snd).fst<0)else false)=decide ((f y).getD i 0<0)/\(u
  i y=(dz ((f y).getD i 0)).length/\∀(b:Nat),b<u i y->oP (if k i=true then d.enc ((dz (o y)).getD b 0)else d.enc ((t y).getD b 0)) (d.enc ((dz
  ((f y).getD i 0)).getD b 0)))/\True)/\decide (c y<0)=decide ((g y).fst<0)/\(h y=(dz (g y).fst).length/\∀i,i<h y->(dz (c y)).getD i 0=
  (dz (g y).fst).getD i 0/\True)/\e y=(g y).snd/\decide (c y<0)=decide ((j y).fst<0)/\(h y=(dz (j y).fst).length/\∀i,i<h y->(dz (c y)).getD
  i 0=(dz (j y).fst).getD i 0/\True)/\e y=(j y).snd/\True)/\True)))))=SW y:=by kernel_rfl
theorem KR(p:Ω):(
 let c:=aj
 let f:=λ(x:Ω)(m:Nat)=>x.getD m 0
 let g:=λ(x:Ω)=>W (↑(tl (eR x))-1+1)
 let t:=λ(x:Ω)=>g x==0
 let q:=λ(m:Ω)=>ah c (tl m) λx=>[SV.ff,SV.aq]
 let u:=λ(x:Ω)=>x.length=x.length/\∀i,i<x.length->pW (f x i)
 let d:=λ(x:Ω)=>(g x).toNat
 let v:=λ(x:Ω)=>sm 0/\sm (d x)
 let e:=λ(x:Ω)=>(↑(d x):Int)
 let w:=ab 12 True
 let j:=([]:List (Option (Nat×Nat)))
 let y:=2=c.n
 let h:=λ(x:Ω)(m:Int)=>zz (x.getD m.toNat 0)
 let r:=λ(x:Int)=>0+x.toNat
 let k:=λ(x:Nat)(m:Int)=>decide (x=r m)
 let o:=λ(x m:Ω)(B:Int)=>ah c (tl x) λC=>af (k C B) (cE (c.enc (m.getD (r B) 0)) 0 (zc (h x B))) (c.enc (f m C))
 let z:=λ(x:Nat)(m:Int)(B y1:Ω)=>if k x m=true then(dz (h B m)).length else(dz (f y1 x)).length
 let s:=aF IntKind.u32
 let A:=λ(x:Ω)(m:Nat)=>(dz (x.getD (0+m) 0)).length
 ab (2:Nat) (((∀i,i<p.length->true=true/\c.ak (c.enc (f p i)))/\cr (eR p))/\ab (2:Nat) ((t p=true->ab (2:Nat) ((ae p).length
  =(0:Nat)/\True))/\(t p=false->(sm (g p)/\(0:Int)<=g p/\g p<=(9223372036854775807:Int)/\(32:Int)*g p<=(281474976710656:Int))/\ab (2:Nat)
  ((eI p (0:Int) (q p)/\(u p/\ab (3:Nat) (v p/\ab (9:Nat) (e p=e p/\sm (0:Int)/\w)))/\j=j/\((d p=tl p/\y/\∀i,i<d p->decide
  ((q p).getD i (0:Int)<(0:Int))=false/\(dz ((q p).getD i (0:Int))).length=(0:Nat)/\True)/\True)/\True)/\∀(n:Int)(l:Ω),eI p n
  l->True/\(decide (n<e p)=true->True/\((0:Int)<=n/\n< ↑p.length)/\True/\(c.ak (zc (p.getD n.toNat (0:Int)))/\fit (h p n))/\((0:Int)<=n/\n
  <e p)/\r n<tl p/\ab (2:Nat) (eI p (W (n+(1:Int))) (o p l n)/\(↑(tl p)-W (n+(1:Int))).toNat<(↑(tl p)-n).toNat/\(u p/\ab (3:Nat) (v
  p/\ab (9:Nat) (e p=e p/\sm (W (n+(1:Int)))/\w)))/\j=j/\((tl p=tl p/\y/\∀i,i<tl p->(if k i n=true then decide (h p n<(0:Int))
  else decide (f l i<(0:Int)))=decide ((o p l n).getD i (0:Int)<(0:Int))/\(z i n p l=(dz ((o p l n).getD i (0:Int))).length/\∀(b:Nat),b<
  z i n p l->bK (if k i n=true then s.enc ((dz (h p n)).getD b (0:Int))else s.enc ((dz (f l i)).getD b (0:Int))) (s.enc ((dz ((o p l n).getD i (0:Int))).getD
  b (0:Int))))/\True)/\True)/\True))/\(decide (n<e p)=false->True/\((0:Nat)+d p<=tl p/\∀i,i<tl p->true=true)/\(d p=(ae p).length
  /\∀i,i<d p->decide (l.getD ((0:Nat)+i) (0:Int)<(0:Int))=decide ((ae p).getD i (0:Int)<(0:Int))/\(A l i=(dz ((ae p).getD i
  (0:Int))).length/\∀(b:Nat),b<A l i->(dz (l.getD ((0:Nat)+i) (0:Int))).getD b (0:Int)=(dz ((ae p).getD i (0:Int))).getD b (0:Int)
  /\True)/\True)/\True))))))=ON p:=by kernel_rfl
theorem NA(c:List Ω):(
 let t:=sm 0
 let k:=true=true
 let e:=λ(m:List Ω)=>m.length
 let H:=λ(m:List Ω)=>e m=e m
 let f:=([]:Ω)
 let c9:=λ(m:List Ω)(s:Nat)=>m.getD s f
 let J:=λ(m:List Ω)(s:Nat)=>(c9 m s).length
 let y:=λ(m:List Ω)(s X:Nat)=>(c9 m s).getD X 0
 let d1:=λ(m:List Ω)=>∀i,i<e m->(sm (J m i)/\∀(b:Nat),b<J m i->pW (y m i b))/\True
 let o:=λ(m:List Ω)=>(↑(e m):Int)
 let Q:=λ(m:List Ω)=>o m=o m
 let K:=sm (0:Int)
 let f2:=ab 67 True
 let z:=([]:List ar)
 let f3:=ar.s SV.aq::z
 let f4:=SV.int .i64 0
 let d2:=ar.s SV.ff::z++(f3++z)++(ar.s f4::z++z)
 let f5:=List.map ar.shape (f3++(d2++(d2++z)))
 let p:=f5=f5
 let A:=ab 3 (K/\ab 2 (K/\True))
 let d3:=fm.n
 let d4:=d3=d3
 let d5:=λ(m:Int)(s:List Ω)=>decide (m<o s)=true
 let d6:=λ(m:Int)(s:List Ω)=>0<=m/\m<o s
 let R:=λ(m:List Ω)(s:Int)=>m.getD s.toNat f
 let g:=aj
 let d7:=λ(m:List Ω)(s:Int)=>ae (eR (R m s))
 let d8:=λ(m:List Ω)(s:Int)=>(d7 m s).length
 let d9:=λ(m:List Ω)(s:Int)(X:Nat)=>g.enc ((d7 m s).getD X 0)
 let f6:=λ(m:List Ω)(s:Int)=>∀i,i<d8 m s->k/\g.ak (d9 m s i)
 let u:=λ(m:List Ω)(s:Int)=>eR (d7 m s)
 let T:=λ(m:List Ω)=>(aJ m).fst.fst
 let e0:=λ(m:List Ω)=>(T m).length
 let f7:=λ(m:List Ω)=>(aJ m).fst.snd
 let L:=λ(m:List Ω)=>(f7 m).fst
 let e1:=λ(m:List Ω)=>decide ((L m).fst<0)
 let e2:=λ(m:List Ω)=>(dz (L m).fst).length
 let f8:=λ(m:List Ω)=>0=(L m).snd
 let M:=λ(m:List Ω)=>(f7 m).snd
 let e3:=λ(m:List Ω)=>decide ((M m).fst<0)
 let e4:=λ(m:List Ω)=>(dz (M m).fst).length
 let f9:=λ(m:List Ω)=>0=(M m).snd/\True
 let g0:=λ(m:List Ω)=>ab 3 (((e0 m=0/\e1 m=false/\e2 m=0/\f8 m/\e3 m=false/\e4 m=0/\f9 m)/\(aJ m).snd=false/\True)/\True)
 let B:=λ(m:List Ω)=>e m+1
 let d:=λ(m:Int)=>W (m+1)
 let C:=λ(m s:List Ω)(X:Int)=>ah fm (B m) λj=>af (decide (j<e m)) (fm.enc (c9 m j)) [SV.bF 2 (d8 s X) (d9 s X)]
 let g1:=λ(m:List Ω)(s:Int)=>decide (gj (u m s)>0)
 let e5:=λ(m:List Ω)(s:Int)=>(o m-d s).toNat<(o m-s).toNat
 let g2:=λ(m s:List Ω)(X:Int)=>t/\B m=(C m s X).length
 let e6:=λ(m:List Ω)(s:Int)=>ab 11 ((H m/\d1 m)/\Q m/\sm (d s)/\f2)
 let g3:=([]:List (Option (Nat×Nat)))
 let N:=g3=g3
 let g4:=λ(m:Nat)(s X:List Ω)(y1:Int)=>if decide (m<e s)=true then J s m else d8 X y1
 let g5:=λ(m s:List Ω)(X:Int)=>p/\A/\N/\((B m=(C m s X).length/\1=d3/\∀i,i<B m->(g4 i m s X=((C m s X).getD i f).length
  /\∀(b:Nat),b<g4 i m s X->bK (if decide (i<e m)=true then g.enc (y m i b)else d9 s X b) (g.enc (((C m s X).getD i f).getD b 0)))/\True)
  /\True)/\True
 let g6:=λ(m:List Ω)=>e m=(C5 m).length
 let e7:=λ(m:List Ω)(s X:Nat)=>((C5 m).getD s f).getD X 0
 let D:=cR
 let c0:=λ(m:Nat)=>(0::1::f).getD m 0
 let g7:=λ(m:List Ω)(s:Nat)=>decide ((T m).getD s 0<0)
 let g8:=λ(m:List Ω)(s:Nat)=>(dz ((T m).getD s 0)).length
 let g9:=λ(m:List Ω)(s X:Nat)=>(dz ((T m).getD s 0)).getD X 0
 let h0:=λ(m:List Ω)(s:Nat)=>(dz (L m).fst).getD s 0
 let h1:=λ(m:List Ω)(s:Nat)=>(dz (M m).fst).getD s 0
 let h2:=λ(m:List Ω)=>(aJ m).snd=true/\True
 let E:=λ(m:List Ω)=>t/\H m
 let F:=λ(m:List Ω)=>aC ((RE m).getD 0 f)
 let e8:=λ(m:List Ω)=>(F m).length
 let e9:=λ(m:List Ω)(s:Nat)=>((F m).getD s d0).fst
 let h3:=λ(m:List Ω)(s:Nat)=>((F m).getD s d0).snd
 let c1:=λ(m:List Ω)(s:Nat)=>(h3 m s).fst
 let h4:=λ(m:List Ω)(s:Nat)=>(dz (c1 m s).fst).length
 let c2:=λ(m:List Ω)(s:Nat)=>(h3 m s).snd
 let h5:=λ(m:List Ω)(s:Nat)=>(dz (c2 m s).fst).length
 let q:=λ(m:List Ω)=>sm (e8 m)/\∀i,i<e8 m->(sm (e9 m i).length/\∀(b:Nat),b<(e9 m i).length->pW ((e9 m i).getD b 0))
  /\sm (decide ((c1 m i).fst<0))/\(sm (h4 m i)/\∀(b:Nat),b<h4 m i->sm ((dz (c1 m i).fst).getD b 0)/\True)/\sm (c1 m i).snd/\sm (decide ((c2 m i).fst
  <0))/\(sm (h5 m i)/\∀(b:Nat),b<h5 m i->sm ((dz (c2 m i).fst).getD b 0)/\True)/\sm (c2 m i).snd/\True
 let r:=λ(m:List Ω)=>(↑(e8 m):Int)
 let c3:=λ(m:List Ω)=>r m=r m
 let h6:=ab 34 True
 let f0:=λ(m:List Ω)=>(H m/\d4/\d1 m)/\True
 let h7:=λ(m:List Ω)=>p/\A/\N/\f0 m/\True
 let h8:=λ(m:List Ω)(s:Int)=>((F m).getD s.toNat d0).snd
 let h:=λ(m:List Ω)(s:Int)=>(h8 m s).snd
 let h9:=λ(m:List Ω)(s:Int)=>D.ak (yc (h m s))
 let v:=λ(m:List Ω)(s:Int)=>((F m).getD (d s).toNat d0).snd.fst
 let j0:=λ(m:List Ω)=>aC ((bq m).getD 0 f)
 let G:=λ(m:List Ω)(s:Int)=>mZ (j0 m) s.toNat
 let j1:=ab 11 True
 let j2:=λ(m:List Ω)(s:Int)=>ab 4 (E m/\ab 5 (q m/\ab 39 (q m/\c3 m/\s=s/\ab 20 (E m/\Q m/\K/\j1))))
 let j3:=λ(m:List Ω)(s:Int)=>((F m).getD s.toNat d0).fst
 let c4:=λ(m:List Ω)(s:Int)=>(j3 m s).length
 let O:=λ(m:List Ω)(s:Int)(X:Nat)=>(j3 m s).getD X 0
 let P:=λ(m:List Ω)(s:Int)=>(h8 m s).fst
 let j4:=λ(m:List Ω)(s:Int)=>decide ((P m s).fst<0)
 let c5:=λ(m:List Ω)(s:Int)=>(dz (P m s).fst).length
 let j5:=λ(m:List Ω)(s:Int)(X:Nat)=>(dz (P m s).fst).getD X 0
 let j6:=λ(m:List Ω)(s:Int)=>decide ((h m s).fst<0)
 let c6:=λ(m:List Ω)(s:Int)=>(dz (h m s).fst).length
 let j7:=λ(m:List Ω)(s:Int)(X:Nat)=>(dz (h m s).fst).getD X 0
 let j8:=λ(m:List Ω)(s:Int)=>(sm (c4 m s)/\∀i,i<c4 m s->pW (O m s i))/\sm (j4 m s)/\(sm (c5 m s)/\∀i,i<c5 m s->
  sm (j5 m s i)/\True)/\sm (P m s).snd/\sm (j6 m s)/\(sm (c6 m s)/\∀i,i<c6 m s->sm (j7 m s i)/\True)/\sm (h m s).snd/\True
 let j9:=List.map ar.shape d2
 let c7:=j9=j9
 let k0:=λ(m:List Ω)(s:Int)=>(dz (v m s).fst).length
 let w:=λ(m:List Ω)(s:Int)=>dj (yy (h m s)) (yy (v m s))
 let k1:=λ(m:List Ω)(s:Int)=>(dz (w m s).fst).length
 let k2:=λ(m:List Ω)(s:Int)=>p/\A/\N/\f0 m/\p/\j8 m s/\c7/\(sm (decide ((v m s).fst<0))/\(sm (k0 m s)/\∀i,i<k0 m s->sm
  ((dz (v m s).fst).getD i 0)/\True)/\sm (v m s).snd/\True)/\c7/\(sm (decide ((w m s).fst<0))/\(sm (k1 m s)/\∀i,i<k1 m s->sm ((dz (w m s).fst).getD
  i 0)/\True)/\sm (w m s).snd/\True)/\True
 let f1:=λ(m:List Ω)(s:Int)=>m.getD (0+s.toNat) f
 let k3:=λ(m:List Ω)(s:Int)=>∀i,i<(f1 m s).length->k/\g.ak (g.enc ((f1 m s).getD i 0))
 let c8:=λ(m:List Ω)(s:Int)=>eR (f1 m s)
 let k4:=λ(m:List Ω)(s X:Int)=>decide (aW (cY (c8 m s) (yy (w m X)))<=0)
 let k5:=λ(m:List Ω)=>(↑(j0 m).length:Int)
 let k6:=λ(m s:List Ω)(X:Int)=>True/\eA m (d X)/\(k5 m-d X).toNat<(k5 m-X).toNat/\ab 4 (E s/\ab 5 (q s/\ab 39 (q s/\c3
  s/\sm (d X)/\h6)))/\h7 s
 let k7:=λ(m:List Ω)=>(↑(bq m).length:Int)
 let k8:=λ(m:List Ω)(s:Int)=>(k7 m-d s).toNat<(k7 m-s).toNat
 let k9:=λ(m:List Ω)(s X:Int)=>ab 4 (E m/\ab 5 (q m/\ab 39 (q m/\c3 m/\s=s/\ab 20 (E m/\Q m/\sm (d X)/\j1))))
 let o0:=λ(m s:Int)(X y1:List Ω)=>decide (m<o X)=false->ab 3 ((((c4 X s=e0 y1/\∀i,i<c4 X s->decide (O X s i<0)=
  g7 y1 i/\((dz (O X s i)).length=g8 y1 i/\∀(b:Nat),b<(dz (O X s i)).length->(dz (O X s i)).getD b 0=g9 y1 i b/\True)/\True)/\j4 X s=
  e1 y1/\(c5 X s=e2 y1/\∀i,i<c5 X s->j5 X s i=h0 y1 i/\True)/\(P X s).snd=(L y1).snd/\j6 X s=e3 y1/\(c6 X s=e4 y1/\∀(i:Nat),
  i<c6 X s->j7 X s i=h1 y1 i/\True)/\(h X s).snd=(M y1).snd/\True)/\h2 y1)/\True)
 let x:=λ(m:List Ω)(s:Int)=>dj (yy (h m s)) (yy y1)
 let o1:=λ(m:List Ω)(s:Int)=>(dz (x m s).fst).length
 let o2:=λ(m:List Ω)(s:Int)=>p/\A/\N/\f0 m/\p/\j8 m s/\c7/\(sm (decide ((1:Int)<(0:Int)))/\(sm (1:Nat)/\∀i,i<(1
  :Nat)->sm ((dz (1:Int)).getD i (0:Int))/\True)/\(0:Int)=(0:Int)/\True)/\c7/\(sm (decide ((x m s).fst<(0:Int)))/\(sm (o1 m s)/\∀(i:Nat),
  i<o1 m s->sm ((dz (x m s).fst).getD i (0:Int))/\True)/\sm (x m s).snd/\True)/\True
 let o3:=λ(m:List Ω)(s X:Int)=>decide (aW (cY (c8 m s) (yy (x m X)))<=0)
 ab 4 ((kL c 0 [] true/\ab 4 ((t/\t)/\k/\ab 11 ((H c/\d1 c)/\Q c/\K/\f2))/\p/\A/\t/\d4/\True)/\∀(n:Int)(l:List Ω)(ac:Bool),
  kL c n l ac->True/\(d5 n c->d6 n c/\ab 2 (((∀i,i<(R c n).length->k/\g.ak (g.enc ((R c n).getD i 0)))/\cr (eR (R c n)))/\ab 2 ((f6
  c n/\eO (u c n))/\ab 2 ((vY (u c n)=true->g0 c)/\(vY (u c n)=false->True/\((!vJ (u c n))=true->1<=1/\(∀(j:Nat),j<1->k)/\(t/\H
  l/\B l<=140737488355328/\B l*24<=140737488355328)/\True/\(ac=true->True/\(f6 c n/\cr (u c n))/\ab 2 (kL c (d n) (C l c n) (g1 c n)/\e5 c
  n/\ab 4 (g2 l c n/\sm (g1 c n)/\e6 c n)/\g5 l c n))/\(ac=false->ab 2 (kL c (d n) (C l c n) false/\e5 c n/\ab 4 (g2 l c n/\false=false/\e6
  c n)/\g5 l c n)))/\((!vJ (u c n))=false->True/\kL c (d n) (C5 l) ac/\e5 c n/\ab 4 ((t/\g6 l)/\ac=ac/\e6 c n)/\p/\A/\N/\((g6 l/\d4/\
  ∀i,i<e l->(J l i=((C5 l).getD i f).length/\∀(b:Nat),b<J l i->decide (y l i b<0)=decide (e7 l i b<0)/\((dz (y l i b)).length
  =(dz (e7 l i b)).length/\∀(ad:Nat),ad<(dz (y l i b)).length->(dz (y l i b)).getD ad 0=(dz (e7 l i b)).getD ad 0/\True)/\True)/\True)/\
  True)/\True))))))/\(decide (n<o c)=false->True/\(ac=true->True/\(D.ak [SV.ff,SV.aq,f4]/\vT (0,0))/\ab 3 ((((2=e0 c/\∀(i:Nat),i
  <2->decide (c0 i<0)=g7 c i/\((dz (c0 i)).length=g8 c i/\∀(b:Nat),b<(dz (c0 i)).length->(dz (c0 i)).getD b 0=g9 c i b/\True)/\True)/\
  false=e1 c/\(0=e2 c/\∀i,i<0->f.getD i 0=h0 c i/\True)/\f8 c/\false=e3 c/\(0=e4 c/\∀i,i<0->f.getD i 0=h1 c i/\True)
  /\f9 c)/\h2 c)/\True))/\(ac=false->(0+e l<=e l/\∀i,i<e l->k)/\((∀i,i<e l->k/\∀(b:Nat),b<(l.getD (0+i) f).length
  ->k/\g.ak (g.enc ((l.getD (0+i) f).getD b 0)))/\qJ (RE l))/\ab 2 ((eA c 0/\ab 4 (E l/\ab 5 (q l/\ab 39 (q l/\c3 l/\K/\h6)))/\h7 l)
  /\∀(n:Int),eA c n->True/\(decide (n<r l)=true->(0<=n/\n<r l)/\True/\(True/\()=())/\ab 2 ((decide (d n<r l)=true->(0<=d n/\d n<
  r l)/\ab 3 (((h9 l n/\D.ak (yc (v l n)))/\dp (yy (h l n))/\dp (yy (v l n)))/\ab 2 ((cW (bq c) (G c n) 0/\j2 l n/\k2 l n)/\∀(Z:Int),cW
  (bq c) (G c n) Z->True/\(d5 Z l->d6 Z l/\0+Z.toNat<e l/\ab 3 (((k3 l Z/\D.ak (yc (w l n)))/\bM (c8 l Z) (yy (w l n)))/\True/\(k4
  l Z n=true->k6 c l n)/\(k4 l Z n=false->True/\cW (bq c) (G c n) (d Z)/\k8 c Z/\k9 l n Z/\k2 l n)))/\o0 Z n l c)))/\(decide (d n<
  r l)=false->ab 2 (((h9 l n/\D.ak (yc y1))/\dp (yy (h l n))/\dp (yy y1))/\ab 2 ((cW (bq c) (G c n) 0/\j2 l n/\o2 l n)/\∀(Z:Int),cW
  (bq c) (G c n) Z->True/\(d5 Z l->d6 Z l/\0+Z.toNat<e l/\ab 3 (((k3 l Z/\D.ak (yc (x l n)))/\bM (c8 l Z) (yy (x l n)))/\True/\(o3
  l Z n=true->k6 c l n)/\(o3 l Z n=false->True/\cW (bq c) (G c n) (d Z)/\k8 c Z/\k9 l n Z/\o2 l n)))/\o0 Z n l c)))))/\(decide (n<
  r l)=false->g0 c))))))=TC c:=by kernel_rfl
@[simp] theorem rwQ0_eq(l:List Ω):RE l=l:=by
 unfold RE;simp only[Jg];exact iJ (C:=fm) rfl
theorem YI:dz 1=[1]:=by
 have b:dz 1=lm 1:=by unfold dz;rfl
 rw[b,oM (by omega),show 1/4294967296=0 from rfl,ur];rfl
theorem zv_1:zv false (ah (aF IntKind.u32) 1 λi=>[SV.int .u32 (([1]:Ω).getD i 0)])=1:=by
 rw[show(ah (aF IntKind.u32) 1 λi=>[SV.int .u32 (([1]:Ω).getD i 0)])=dz 1 from(iJ (C:=aF IntKind.u32) (l:=[1]) rfl).trans YI.symm,PH];rfl
theorem VQ:aj.ak [SV.bool false,SV.bF 1 1 λi=>[SV.int .u32 (([1]:Ω).getD i 0)]]:=by
 have h:=aj.kW 1;have e:aj.enc 1=[SV.bool false,SV.bF 1 1 λi=>[SV.int .u32 (([1]:Ω).getD i 0)]]:=by
  have b:aj.enc 1=[SV.bool (decide ((1:Int)<0)),SV.bF 1 (dz 1).length λi=>[SV.int .u32 ((dz 1).getD i 0)]]:=rfl;rw[b,YI];rfl
 rw[<-e];exact h
theorem oe{y:Int×Int}(h:dp y):fit y.1/\di y.2:=by
 unfold dp at h;obtain⟨b,c,d⟩:=h;exact⟨fX b (by omega),by unfold di;omega⟩
theorem SH:fit 1:=by
 have:=gT (a:=1) (b:=10000) (by omega);have c:pw 1=4294967296:=by rw[bD,fh];rfl
 exact(oe (y:=(1,0)) (by unfold dp;refine⟨?_,by omega,by omega⟩;show(1:Int)<_;omega)).1
theorem CY(y:Int×Int):ofN y=([-(eV y.1 y.2).1,2^(eV y.1 y.2).2.toNat],eV y.1 y.2,eV y.1 y.2):=by unfold ofN;rfl
theorem k352:aH prog UC:=av k353 hm func352 (by kernel_rfl) (by kernel_rfl) sY1.ok (by kernel_rfl) (λ_=>[]) λa b=>by
 have h:SW a:=by
  rw[<-Mv];(conv=>zeta);simp only[aA];generalize a=y at*
  try dsimp only at b
  simp[-List.getD_eq_getElem?_getD];unfold vT at b;obtain⟨e,k⟩:=b;have⟨m,o⟩:=oe k;rw[zv_1,K8,CY];generalize eV y.1 y.2=r at*
  refine⟨e,m,by unfold fN;omega,⟨VQ,SH,o⟩,⟨rfl,λi p=>?_⟩,J9,⟨rfl,λ_ _=>rfl⟩,rfl,J9,⟨rfl,λ_ _=>rfl⟩,rfl⟩
  by_cases c:i=0
  . subst c;refine⟨?_,rfl,λj _=>⟨rfl,trivial⟩⟩;show decide (0<r.1)=decide (-r.1<0)
    exact JX.2 (by omega)
  . have d:i=1:=by omega
    subst d;exact⟨rfl,rfl,λj _=>⟨rfl,trivial⟩⟩
 exact h
theorem k258r:aH prog Pc:=av k352 hm func258 (by kernel_rfl) (by kernel_rfl) sP.ok (by kernel_rfl) (λa=>T3 a) λa d=>by
 have h:ON a:=by
  rw[<-KR];(conv=>zeta);simp only[aA];generalize a=p at*
  try dsimp only at d
  have q:=jC d;have r:=cX p;simp[-List.getD_eq_getElem?_getD,d,cP d];rw[aO (n:=(tl p:Int)) (by omega) (by omega)];refine⟨λe=>Kr (by rw[bn];omega),λe=>⟨by omega,⟨inv258_0 p,by omega,λi j=>Bg _ i (by omega)⟩,λn l b=>⟨λk=>?_,λk=>?_⟩⟩⟩
  . have c:=oy b;have m:0<=n:=by unfold eI at b;exact b.1
    rw[aO (n:=n+1) (by omega) (by omega),uK c.symm];have:=wE b (by omega)
    and_intros<;>first|omega|assumption|exact jK (by simp) c.symm
  . have c:=oy b;have e:l=ae p:=by
     unfold eI at b;obtain⟨u,w,o⟩:=b;rw[o,show n.toNat=tl p by omega,dq];simp
    rw[e,bn];exact⟨by omega,by omega,λi j=>⟨J9,rfl,λ_ _=>rfl⟩⟩
 exact h
theorem aaS{c:List Ω}(h:fD c=true):aJ c=(d0,false):=by unfold aJ;rw[JB h]
theorem Gg{c:List Ω}(h:fD c=false)(b:uA c=true):aJ c=(ofN (0,0),true):=by unfold aJ;rw[JA (by rw[h];decide),JB b]
theorem BC{c:List Ω}(h:fD c=false)(b:uA c=false):aJ c=Tb (bq c) (aC ((bq c).getD 0 [])) (aC ((bq c).getD 0 [])).length 0:=by
 unfold aJ;rw[JA (by rw[h];decide),JA (by rw[b];decide)]
theorem ta{p:Ω}(h:eO p):bj 100 p/\p.length<=5:=by unfold eO at h;exact h
theorem qH{p:Ω}(h:eO p):eO (ae p):=by
 obtain⟨b,c⟩:=ta h;unfold eO;exact⟨fZ b,by rw[bn];have:=cX p;omega⟩
theorem tD{p:Ω}(h:eO p):cr p:=bu (ta h).1 (by omega)
theorem Ss{c:List Ω}{i:Nat}(h:i<c.length):c.take (i+1)=c.take i++[c.getD i []]:=by
 rw[X4,J0,J4 h];rfl
theorem Lq{c:List Ω}{i:Nat}(h:i<c.length):c.getD i []∈c:=by
 rw[J0,J4 h];exact Ku _
theorem xr(c:List Ω)(p:Ω):fD (c++[p])=(fD c||vY (ae p)):=by unfold fD;simp
theorem yx{c:List Ω}{p:Ω}(h:p∈c)(b:vY (ae p)=true):fD c=true:=by
 unfold fD;exact List.any_eq_true.2 ⟨ae p,Kh.2 ⟨p,h,rfl⟩,b⟩
theorem Ty(c:List Ω)(p:Ω):bq (c++[p])=bq c++(if vJ (ae p)then []else [ae p]):=by
 unfold bq;cases h:vJ (ae p)<;>simp[h]
theorem FJ(c:List Ω):(bq c).length<=c.length:=by
 unfold bq;exact Jn (List.length_filter_le _ _) (by rw[Qj];omega)
theorem zY(c:List Ω)(p:Ω):uA (c++[p])=(uA c&&(vJ (ae p)||decide (0<gj (ae p)))):=by
 unfold uA;rw[Ty];cases h:vJ (ae p)<;>simp
theorem HE(o:List Ω)(p:Ω)(y:Int×Int):jS (o++[p]) y=(jS o y&&decide (0<aW (cY p y))):=by unfold jS;simp
theorem GO{o:List Ω}{p:Ω}{y:Int×Int}(h:p∈o)(b:aW (cY p y)<=0):jS o y=false:=by
 unfold jS;rw[List.all_eq_false];exact⟨p,h,by simp;omega⟩
theorem nO(o:List Ω)(b:List ao)(i:Nat):Tb o b 0 i=(d0,false):=by kernel_rfl
theorem oi(o:List Ω)(b:List ao)(k i:Nat):Tb o b (k+1) i=if jS o (mZ b i)then(b.getD i d0,true)else Tb o b k (i+1):=by kernel_rfl
theorem tF(b:List ao)(i:Nat):mZ b i=dj (b.getD i d0).2.2 (if i+1<b.length then(b.getD (i+1) d0).2.1 else y1):=by unfold mZ;rfl
theorem qE(a:ao):(a.fst.length=a.fst.length/\∀i,i<a.fst.length->(a.fst.getD i (0:Int)<(0:Int)↔a.fst.getD i (0:Int)<(0:Int))/\(dz (a.fst.getD i (0:Int))).length=(dz (a.fst.getD i (0:Int))).length/\
 ∀(b:Nat),b<(dz (a.fst.getD i (0:Int))).length->(dz (a.fst.getD i (0:Int))).getD b (0:Int)=(dz (a.fst.getD i (0:Int))).getD b (0:Int))/\
 (a.snd.fst.fst<(0:Int)↔a.snd.fst.fst<(0:Int))/\((dz a.snd.fst.fst).length=(dz a.snd.fst.fst).length/\∀i,i<(dz a.snd.fst.fst).length->(dz a.snd.fst.fst).getD i (0:Int)=(dz a.snd.fst.fst).getD i (0:Int))/\
 a.snd.fst.snd=a.snd.fst.snd/\(a.snd.snd.fst<(0:Int)↔a.snd.snd.fst<(0:Int))/\((dz a.snd.snd.fst).length=(dz a.snd.snd.fst).length/\∀i,i<(dz a.snd.snd.fst).length->(dz a.snd.snd.fst).getD i (0:Int)=(dz a.snd.snd.fst).getD i (0:Int))/\
 a.snd.snd.snd=a.snd.snd.snd:=⟨⟨rfl,λ_ _=>⟨J9,rfl,λ_ _=>rfl⟩⟩,J9,⟨rfl,λ_ _=>rfl⟩,rfl,J9,⟨rfl,λ_ _=>rfl⟩,rfl⟩
theorem qT:(d0,false).1.1=([]:Ω)/\(0:Int)<=(d0,false).1.2.1.1/\dz (d0,false).1.2.1.1=[]/\(0:Int)=(d0,false).1.2.1.2/\(0:Int)<=(d0,false).1.2.2.1/\dz (d0,false).1.2.2.1=[]/\(0:Int)=(d0,false).1.2.2.2:=
 ⟨rfl,Kx 0,gz,rfl,Kx 0,gz,rfl⟩
theorem Xw{l:List Ω}{p:Ω}{i:Nat}(c:i<l.length+1):(if i<l.length then(l.getD i []).length else p.length)=((l++[p]).getD i []).length/\
 ∀(b:Nat),(b<if i<l.length then(l.getD i []).length else p.length)->bK (if i<l.length then aj.enc ((l.getD i []).getD b (0:Int))else aj.enc (p.getD b (0:Int))) (aj.enc (((l++[p]).getD i []).getD b (0:Int))):=by
 rw[xA c]
 by_cases h:i<l.length
 . simp only[JB h];exact⟨trivial,λj _=>GP _⟩
 . simp only[JA h];exact⟨trivial,λj _=>GP _⟩
theorem N7{c l:List Ω}{b:Int}{y:Int×Int}(x:l=bq c)(D:c.length<=10)(q:y=mZ (aC ((bq c).getD 0 [])) b.toNat)(r:eA c b)(E:b<(aC ((bq c).getD 0 [])).length)(F:(aC ((bq c).getD 0 [])).length<=2)(u:∀p∈bq c,bM p (mZ (aC ((bq c).getD 0 [])) b.toNat)):
 cW (bq c) (mZ (aC ((bq c).getD (0:Nat) [])) b.toNat) (0:Int)/\∀(d:Int),cW (bq c) (mZ (aC ((bq c).getD (0:Nat) [])) b.toNat) d->(d< ↑l.length->((0:Int)<=d/\d< ↑l.length)/\
 d.toNat<l.length/\bM (l.getD d.toNat []) y/\(aW (cY (l.getD d.toNat []) y)<=(0:Int)->eA c (W (b+(1:Int)))/\max (↑(aC ((bq c).getD (0:Nat) [])).length-W (b+(1:Int))) (0:Int)<
 ↑(aC ((bq c).getD (0:Nat) [])).length-b)/\((0:Int)<aW (cY (l.getD d.toNat []) y)->cW (bq c) (mZ (aC ((bq c).getD (0:Nat) [])) b.toNat) (W (d+(1:Int)))/\max (↑(bq c).length-W (d
 +(1:Int))) (0:Int)< ↑(bq c).length-d))/\(↑l.length<=d->((((aC (l.getD (0:Nat) [])).getD b.toNat d0).fst.length=(aJ c).fst.fst.length/\∀i,i<((aC (l.getD (0:Nat) [])).getD b.toNat
 d0).fst.length->(((aC (l.getD (0:Nat) [])).getD b.toNat d0).fst.getD i (0:Int)<(0:Int)↔(aJ c).fst.fst.getD i (0:Int)<(0:Int))/\(dz (((aC (l.getD (0:Nat) [])).getD b.toNat d0).fst.getD i (0:
 Int))).length=(dz ((aJ c).fst.fst.getD i (0:Int))).length/\∀(e:Nat),e<(dz (((aC (l.getD (0:Nat) [])).getD b.toNat d0).fst.getD i (0:Int))).length->(dz (((aC (l.getD (0:Nat) [])).getD b.toNat
 d0).fst.getD i (0:Int))).getD e (0:Int)=(dz ((aJ c).fst.fst.getD i (0:Int))).getD e (0:Int))/\(((aC (l.getD (0:Nat) [])).getD b.toNat d0).snd.fst.fst<(0:Int)↔(aJ c).fst.snd.fst.fst<(0:Int))/\
 ((dz ((aC (l.getD (0:Nat) [])).getD b.toNat d0).snd.fst.fst).length=(dz (aJ c).fst.snd.fst.fst).length/\∀i,i<(dz ((aC (l.getD (0:Nat) [])).getD b.toNat d0).snd.fst.fst).length->(dz ((aC (l.getD
 (0:Nat) [])).getD b.toNat d0).snd.fst.fst).getD i (0:Int)=(dz (aJ c).fst.snd.fst.fst).getD i (0:Int))/\((aC (l.getD (0:Nat) [])).getD b.toNat d0).snd.fst.snd=(aJ c).fst.snd.fst.snd/\(((aC (l.getD (0:
 Nat) [])).getD b.toNat d0).snd.snd.fst<(0:Int)↔(aJ c).fst.snd.snd.fst<(0:Int))/\((dz ((aC (l.getD (0:Nat) [])).getD b.toNat d0).snd.snd.fst).length=(dz (aJ c).fst.snd.snd.fst).length/\∀i,i<
 (dz ((aC (l.getD (0:Nat) [])).getD b.toNat d0).snd.snd.fst).length->(dz ((aC (l.getD (0:Nat) [])).getD b.toNat d0).snd.snd.fst).getD i (0:Int)=(dz (aJ c).fst.snd.snd.fst).getD i (0:Int))/\((aC (l.getD
 (0:Nat) [])).getD b.toNat d0).snd.snd.snd=(aJ c).fst.snd.snd.snd)/\(aJ c).snd=true):=by
 subst x;have z:=FJ c;unfold eA at r;obtain⟨G,H,A,B,k⟩:=r;rw[show(aC ((bq c).getD 0 [])).length-b.toNat=((aC ((bq c).getD 0 [])).length-b.toNat-1)+1 by omega,oi,<-q]at k;rw[<-q]at u⊢;refine⟨by unfold cW;exact⟨by omega,by omega,by unfold jS;rfl⟩,λj w=>?_⟩;unfold cW at w;obtain⟨C,J,m⟩:=w;refine⟨λh=>⟨⟨C,h⟩,by omega,u _ (Lq (by omega)),λo=>?_,λo=>?_⟩,λh=>?_⟩
 . rw[GO (Lq (c:=bq c) (i:=j.toNat) (by omega)) o,JA (by decide)]at k;rw[aO (n:=b+1) (by omega) (by omega)];refine⟨?_,by omega⟩;unfold eA;refine⟨by omega,by omega,A,B,?_⟩;rw[k,show(b+1).toNat=b.toNat+1 by omega,Nat.sub_sub]
 . rw[aO (n:=j+1) (by omega) (by omega)];refine⟨?_,by omega⟩;unfold cW;refine⟨by omega,by omega,?_⟩;rw[show(j+1).toNat=j.toNat+1 by omega,Ss (by omega),HE,m,JJ o];rfl
 . rw[Jz (by omega)]at m;rw[m,JB rfl]at k;rw[k];exact⟨qE _,rfl⟩
theorem g285{c:List Ω}(hp:lP c):
 let k:=λ(m:List Ω)=>m.length
 let h:=λ(m:List Ω)=>(↑(k m):Int)
 let v:=λ(m:Int)(Z:List Ω)=>0<=m/\m<h Z
 let g:=([]:Ω)
 let j:=λ(m:List Ω)(Z:Int)=>m.getD Z.toNat g
 let d:=λ(m:List Ω)(Z:Int)=>ae (j m Z)
 let o:=λ(m:List Ω)=>(aJ m).fst.fst
 let E:=λ(m:List Ω)=>(aJ m).fst.snd
 let w:=λ(m:List Ω)=>(E m).fst
 let p:=λ(m:List Ω)=>(w m).fst
 let B:=λ(m:List Ω)=>(E m).snd
 let q:=λ(m:List Ω)=>(B m).fst
 let F:=λ(m:List Ω)=>0=(B m).snd
 let C:=λ(m:List Ω)=>(o m=g/\0<=p m/\dz (p m)=g/\0=(w m).snd/\0<=q m/\dz (q m)=g/\F m)/\(aJ m).snd=false
 let G:=λ(m:List Ω)=>k m<=140737488355327/\(k m+1)*24<=140737488355328
 let e:=λ(m:Int)=>W (m+1)
 let x:=λ(m Z:List Ω)(y1:Int)=>m++[d Z y1]
 let D:=λ(m:List Ω)(Z:Int)=>max (h m-e Z) 0<h m-Z
 let H:=λ(m:Nat)(Z y1:List Ω)(u1:Int)=>if m<k Z then(Z.getD m g).length else(d y1 u1).length
 let J:=λ(m Z:List Ω)(y1:Int)=>D m y1/\1=fm.n/\∀i,i<k Z+1->H i Z m y1=((x Z m y1).getD i g).length/\∀(ad:Nat),
  ad<H i Z m y1->bK (if i<k Z then aj.enc ((Z.getD i g).getD ad 0)else aj.enc ((d m y1).getD ad 0)) (aj.enc (((x Z m y1).getD i g).getD ad 0))
 let y:=λ(m:List Ω)=>aC (m.getD 0 g)
 let r:=λ(m:List Ω)=>(↑(y m).length:Int)
 let K:=λ(m:List Ω)(Z:Int)=>((y m).getD Z.toNat d0).snd
 let f:=λ(m:List Ω)(Z:Int)=>(K m Z).snd
 let z:=λ(m:List Ω)(Z:Int)=>((y m).getD (e Z).toNat d0).snd.fst
 let L:=λ(m:List Ω)=>aC ((bq m).getD 0 g)
 let t:=λ(m:List Ω)(Z:Int)=>mZ (L m) Z.toNat
 let M:=λ(m:List Ω)=>(↑(L m).length:Int)
 let N:=λ(m:List Ω)(Z:Int)=>eA m (e Z)/\max (M m-e Z) 0<M m-Z
 let O:=λ(m:List Ω)=>(↑(bq m).length:Int)
 let P:=λ(m:List Ω)(Z y1:Int)=>cW (bq m) (t m Z) (e y1)/\max (O m-e y1) 0<O m-y1
 let s:=λ(m:List Ω)(Z:Int)=>((y m).getD Z.toNat d0).fst
 let Q:=λ(m:List Ω)(Z:Nat)=>(dz ((o m).getD Z 0)).length
 let R:=λ(m:List Ω)(Z y1:Nat)=>(dz ((o m).getD Z 0)).getD y1 0
 let u:=λ(m:List Ω)(Z:Int)=>(K m Z).fst
 let T:=λ(m Z:List Ω)(y1 u1:Int)=>h m<=y1->(((s m u1).length=(o Z).length/\∀i,i<(s m u1).length->((s m u1).getD i 0<0↔
  (o Z).getD i 0<0)/\(dz ((s m u1).getD i 0)).length=Q Z i/\∀(ad:Nat),ad<(dz ((s m u1).getD i 0)).length->(dz ((s m u1).getD i 0)).getD ad 0=R
  Z i ad)/\((u m u1).fst<0↔p Z<0)/\((dz (u m u1).fst).length=(dz (p Z)).length/\∀i,i<(dz (u m u1).fst).length->(dz (u m u1).fst).getD i
  0=(dz (p Z)).getD i 0)/\(u m u1).snd=(w Z).snd/\((f m u1).fst<0↔q Z<0)/\((dz (f m u1).fst).length=(dz (q Z)).length/\∀i,i<(dz (f
  m u1).fst).length->(dz (f m u1).fst).getD i 0=(dz (q Z)).getD i 0)/\(f m u1).snd=(B Z).snd)/\(aJ Z).snd=true
 let A:=λ(m:Nat)=>(0::1::g).getD m 0
 kL c 0 [] true/\∀(n:Int)(l:List Ω),(kL c n l false->(n<h c->v n c/\cr (j c n)/\eO (d c n)/\(vY (d c n)=true->C c)/\
  (vY (d c n)=false->(vJ (d c n)=false->G l/\kL c (e n) (x l c n) false/\J c l n)/\(vJ (d c n)=true->kL c (e n) l false/\D c n)))/\(h
  c<=n->qJ l/\eA c 0/\∀(X:Int),eA c X->(X<r l->(0<=X/\X<r l)/\(e X<r l->(0<=e X/\e X<r l)/\(dp (f l X)/\
  dp (z l X))/\cW (bq c) (t c X) 0/\∀(ac:Int),cW (bq c) (t c X) ac->(ac<h l->v ac l/\ac.toNat<k l/\bM (j l ac) (dj (f
  l X) (z l X))/\(aW (cY (j l ac) (dj (f l X) (z l X)))<=0->N c X)/\(0<aW (cY (j l ac) (dj (f l X) (z l X)))->P c X ac))/\T l c
  ac X)/\(r l<=e X->(dp (f l X)/\dp y1)/\cW (bq c) (t c X) 0/\∀(ac:Int),cW (bq c) (t c X) ac->(ac<h l->v ac l/\ac.toNat
  <k l/\bM (j l ac) (dj (f l X) y1)/\(aW (cY (j l ac) (dj (f l X) y1))<=0->N c X)/\(0<aW (cY (j l ac) (dj (f l X) y1))->P c X ac))
  /\T l c ac X))/\(r l<=X->C c)))/\(kL c n l true->(n<h c->v n c/\cr (j c n)/\eO (d c n)/\(vY (d c n)=true->C c)/\(vY (d c n)=
  false->(vJ (d c n)=false->G l/\cr (d c n)/\kL c (e n) (x l c n) (decide (0<gj (d c n)))/\J c l n)/\(vJ (d c n)=true->kL c (e n) l
  true/\D c n)))/\(h c<=n->vT (0,0)/\((2=(o c).length/\∀i,i<2->(A i<0↔(o c).getD i 0<0)/\(dz (A i)).length=Q c i/\∀(ad:Nat),
  ad<(dz (A i)).length->(dz (A i)).getD ad 0=R c i ad)/\0<=p c/\0=(dz (p c)).length/\0=(w c).snd/\0<=q c/\0=(dz (q c)).length/\F c)/\(aJ c).snd
  =true)):=by
  conv=>zeta
  unfold lP at hp;obtain⟨hc,hq,hr⟩:=hp;have step:∀(n:Int)(l:List Ω)(b:Bool),kL c n l b->n<c.length->vY (ae (c.getD n.toNat []))=false->
   kL c (W (n+1)) (l++(if vJ (ae (c.getD n.toNat []))then []else [ae (c.getD n.toNat [])])) (b&&(vJ (ae (c.getD n.toNat []))||decide (0<gj (ae (c.getD n.toNat [])))))/\max (↑c.length-W (n+(1:Int))) (0:Int)< ↑c.length-n:=λn l b h hn hv=>by
   unfold kL at h;obtain⟨a1,a2,a3,a4,a5⟩:=h;rw[aO (n:=n+1) (by omega) (by omega)];refine⟨?_,by omega⟩;unfold kL;rw[show(n+1).toNat=n.toNat+1 by omega,Ss (by omega),xr,Ty,zY,a3,hv,<-a4,<-a5];exact⟨by omega,by omega,rfl,rfl,rfl⟩
  have len:∀(n:Int)(l:List Ω)(b:Bool),kL c n l b->l.length<=10/\0<=n:=λn l b h=>by
   unfold kL at h;obtain⟨a1,a2,a3,a4,a5⟩:=h;have:=FJ (c.take n.toNat);rw[a4];rw[Kj]at this;omega
  have all:∀(n:Int)(l:List Ω)(b:Bool),kL c n l b->c.length<=n->fD c=false/\l=bq c/\uA c=b:=λn l b h hn=>by
   unfold kL at h;obtain⟨a1,a2,a3,a4,a5⟩:=h;rw[Jz (by omega)]at a3 a4 a5;exact⟨a3,a4,a5.symm⟩
  refine⟨by unfold kL;exact⟨by omega,by omega,by unfold fD;rfl,by unfold bq;rfl,by unfold uA bq;rfl⟩,λn l=>⟨λal=>⟨λhn=>?_,λhn=>?_⟩,λal=>⟨λhn=>?_,λhn=>?_⟩⟩⟩
  . obtain⟨l1,n0⟩:=len n l _ al;have hm:=Lq (c:=c) (i:=n.toNat) (by omega);refine⟨⟨n0,hn⟩,tD (hq _ hm),qH (hq _ hm),λhv=>?_,λhv=>?_⟩
    . rw[aaS (yx hm hv)];exact⟨qT,rfl⟩
    . have hs:=step n l _ al hn hv;refine⟨λha=>?_,λha=>?_⟩
      . rw[ha]at hs;exact⟨⟨by omega,by omega⟩,hs.1,hs.2,rfl,λi hi=>Xw hi⟩
      . rw[ha]at hs;simpa using hs
  . obtain⟨a1,a2,a3⟩:=all n l _ al hn;obtain⟨r1,r2,r3⟩:=hr a1 a3;have hb:=BC a1 a3;refine⟨by rw[a2];exact r1,by unfold eA;exact⟨by omega,by omega,a1,a3,hb⟩,λm hm=>⟨λaq=>?_,λax=>?_⟩⟩
    . have aw:=hm;unfold eA at hm;obtain⟨m1,m2,m3,m4,m5⟩:=hm;rw[a2]at aq;have eW:=aO (n:=m+1) (by omega) (by omega);have ey:=tF (aC ((bq c).getD 0 [])) m.toNat;refine⟨by rw[a2];exact⟨m1,aq⟩,λhw=>?_,λhw=>?_⟩
      . rw[eW]at hw⊢;rw[a2]at hw;have e1:(m+1).toNat=m.toNat+1:=by omega
        rw[JB (by omega)]at ey;rw[e1,show aC (l.getD 0 [])=aC ((bq c).getD 0 []) by rw[a2]];have F:=N7 a2 hc ey.symm aw aq r2 (r3 m.toNat (by omega)).2.2;rw[eW,show aC (l.getD 0 [])=aC ((bq c).getD 0 []) by rw[a2]]at F;exact⟨⟨by omega,hw⟩,⟨(r3 m.toNat (by omega)).2.1,(r3 (m.toNat+1) (by omega)).1⟩,F⟩
      . rw[eW]at hw⊢;rw[a2]at hw;rw[JA (by omega)]at ey;rw[show aC (l.getD 0 [])=aC ((bq c).getD 0 []) by rw[a2]];have F:=N7 a2 hc ey.symm aw aq r2 (r3 m.toNat (by omega)).2.2;rw[eW,show aC (l.getD 0 [])=aC ((bq c).getD 0 []) by rw[a2]]at F;exact⟨⟨(r3 m.toNat (by omega)).2.1,Hq⟩,F⟩
    . unfold eA at hm;obtain⟨m1,m2,m3,m4,m5⟩:=hm;rw[a2]at ax;rw[show(aC ((bq c).getD 0 [])).length-m.toNat=0 by omega,nO]at m5;rw[m5];exact⟨qT,rfl⟩
  . obtain⟨l1,n0⟩:=len n l _ al;have hm:=Lq (c:=c) (i:=n.toNat) (by omega);refine⟨⟨n0,hn⟩,tD (hq _ hm),qH (hq _ hm),λhv=>?_,λhv=>?_⟩
    . rw[aaS (yx hm hv)];exact⟨qT,rfl⟩
    . have hs:=step n l _ al hn hv;refine⟨λha=>?_,λha=>?_⟩
      . rw[ha]at hs;exact⟨⟨by omega,by omega⟩,tD (qH (hq _ hm)),hs.1,hs.2,rfl,λi hi=>Xw hi⟩
      . rw[ha]at hs;simpa using hs
  . obtain⟨a1,a2,a3⟩:=all n l _ al hn;rw[Gg a1 a3];have e0:ofN (0,0)=([0,1],(0,0),(0,0)):=by
     rw[CY];have:eV 0 0=(0,0):=by unfold eV;rw[JB rfl]
     rw[this];rfl
    rw[e0];refine⟨?_,⟨⟨rfl,λi hi=>⟨J9,rfl,λ_ _=>rfl⟩⟩,Kx 0,by rw[show dz ((([0,1],(0,0),(0,0)):ao),true).1.2.1.1=[]from gz];rfl,rfl,Kx 0,by rw[show dz ((([0,1],(0,0),(0,0)):ao),true).1.2.2.1=[]from gz];rfl,rfl⟩,rfl⟩;have z:=bN 30000;have z2:=bN 10000;unfold vT pL dp eV;rw[JB rfl];refine⟨⟨?_,by decide,by decide⟩,?_,by decide,by decide⟩
    . show(0:Int)<_;omega
    . show(0:Int)<_;omega
theorem k285:aH prog VY:=av k258r hm func285 (by kernel_rfl) (by kernel_rfl) sQ.ok (by kernel_rfl) (λa=>aaj a) λa b=>by
 have h:TC a:=by
  rw[<-NA];(conv=>zeta);simp only[aA]
  try dsimp only at b
  simp[-List.getD_eq_getElem?_getD,Tg];exact g285 b
 exact h
abbrev EZ:Ou (List Ω):=OE fm Wy
abbrev argW:Arg (List (List Ω)):=zN EZ
abbrev wS(l:List (List Ω)):SV:=argW.enc l
def sW:=iR.one argW
def dD:List (List Ω)->ao×Bool
 |[]=>(d0,false)
 |c::r=>if(aJ c).2 then aJ c else dD r
def sR(l:List (List Ω)):Prop:=l.length<=64/\(∀c∈l,lP c/\((aJ c).2=true->dp (aJ c).1.2.1/\dp (aJ c).1.2.2))/\∀i j,i<j->j<l.length->(aJ (l.getD i [])).2=true->(aJ (l.getD j [])).2=false
def ja(l:List (List Ω))(i:Int)(a:ao)(b:Bool):Prop:=0<=i/\i<=l.length/\if b then(a,true)=dD l/\(∀j,i<=j->j<l.length->(aJ (l.getD j.toNat [])).2=false)else a=d0/\dD (l.drop i.toNat)=dD l
def nm(a:ao):ao:=(ae a.1,a.2.1,a.2.2)
def pI(a:ao):Prop:=cr a.1/\fit a.2.1.1/\fit a.2.2.1
def HD(l:List (List Ω)):Prop:=l.length<=64/\∀c∈l,c.length<=16/\∀p∈c,p.length<=9/\∀z∈p,z.natAbs<2^200
def dM(n i:Int):Prop:=0<=i/\i<=n
def jM(l:List (List Ω)):Prop:=HD l/\sR l/\((dD l).2=true->pI (dD l).1)
attribute [irreducible] dD sR ja nm pI HD dM jM
def c227:bB:=ow sW.dec (λa=>sR a) (λa=>.df [nS (dD a).1,.bool (dD a).2])
def Uo:List (Nat×bB):=(227,c227)::VY
def a227(l:List (List Ω)):List kM:=[⟨.unit,.list [.int .i64 (.tm 12),.cod ei 1 0,.bool (.tm 5)],λ_ (x:Int×ao×Bool)=>ja l x.1 x.2.1 x.2.2,λ_ (x:Int×ao×Bool)=>(l.length-x.1).toNat⟩]
def SY(l:List (List Ω)):Prop:=fQ VY f227 (a227 l) [wS l] (.df [nS (dD l).1,.bool (dD l).2])
def c288:bB:=ow sY1.dec (λa=>fit a.1) (λa=>yS a)
def Up:List (Nat×bB):=(288,c288)::Uo
def TV(y:Int×Int):Prop:=fQ Uo f288 [] [yS y] (yS y)
def c228:bB:=ow sN.dec (λa=>pI a) (λa=>nS (nm a))
def VO:List (Nat×bB):=(228,c228)::Up
def SK(q:ao):Prop:=fQ Up f228 [] [nS q] (nS (nm q))
def c226:bB:=ow sW.dec (λa=>HD a) (λa=>.bool false)
def VL:List (Nat×bB):=(226,c226)::VO
def Zv(l:List (List Ω)):List kM:=[⟨.unit,.int .i64 (.tm 14),λ_ (i:Int)=>dM l.length i,λ_ (i:Int)=>(l.length-i).toNat⟩,⟨.int .i64 (.tm 14),.int .i64 (.tm 23),λ(i:Int)(j:Int)=>0<=i/\i<l.length/\dM (l.getD i.toNat []).length j,λ(i:Int)(j:Int)=>((l.getD i.toNat []).length-j).toNat⟩,⟨.list [.int .i64 (.tm 14),.int .i64 (.tm 23)],.int .i64 (.tm 8),λ(y:Int×Int)(j:Int)=>0<=y.1/\y.1<l.length/\0<=y.2/\y.2<(l.getD y.1.toNat []).length/\dM (tl ((l.getD y.1.toNat []).getD y.2.toNat [])) j,λ(y:Int×Int)(j:Int)=>(tl ((l.getD y.1.toNat []).getD y.2.toNat [])-j).toNat⟩]
def Tt(l:List (List Ω)):Prop:=fQ VO f226 (Zv l) [wS l] (.bool false)
def c167:bB:=ow sW.dec (λa=>jM a) (λa=>.df [nS (nm (dD a).1),.bool (dD a).2,iS 0])
def Va:List (Nat×bB):=(167,c167)::VL
def SI(l:List (List Ω)):Prop:=fQ VL f167 [] [wS l] (.df [nS (nm (dD l).1),.bool (dD l).2,iS 0])
def c86:bB:=ow sW.dec (λa=>jM a) (λa=>.df [.bool (dD a).2,iS 0])
def T86:List (Nat×bB):=(86,c86)::Va
def XD(l:List (List Ω)):Prop:=fQ Va f86 [] [wS l] (.df [.bool (dD l).2,iS 0])
theorem LJ(l:List (List Ω)):(
 let T:=false=false
 let G:=λ(m:List (List Ω))=>m.length
 let v:=λ(m:List (List Ω))(s:Nat)=>m.getD s []
 let c2:=λ(m:List (List Ω))=>G m=G m/\∀i,i<G m->(sm (v m i).length/\∀(b:Nat),b<(v m i).length->(sm ((v m i).getD b
  []).length/\∀(ac:Nat),ac<((v m i).getD b []).length->pW (((v m i).getD b []).getD ac 0))/\True)/\True
 let c:=λ(m:List (List Ω))=>(↑(G m):Int)
 let w:=sm (0:Int)
 let c3:=ab 32 True
 let j:=([]:List ar)
 let c4:=ar.s SV.aq::j
 let c5:=ar.s SV.ff::j++(c4++j)++(ar.s (SV.int .i64 0)::j++j)
 let c6:=List.map ar.shape (c4++(c5++(c5++j)))
 let k:=c6=c6
 let c0:=ab 3 (w/\ab 2 (w/\True))
 let c1:=sm 0
 let o:=λ(m:List (List Ω))(s:Int)=>m.getD s.toNat []
 let p:=true=true
 let g:=aj
 let c7:=λ(m:List (List Ω))(s:Int)=> !(aJ (C5 (o m s))).snd
 let H:=λ(m:Int)=>W (m+1)
 let c8:=λ(m:List (List Ω))(s:Int)=>(c m-H s).toNat<(c m-s).toNat
 let c9:=λ(m:List (List Ω))(s:Int)=>ab 4 (c2 m/\c m=c m/\sm (H s)/\c3)
 let x:=λ(m:ao)=>m.fst
 let y:=λ(m:ao)=>(x m).length
 let q:=λ(m:ao)(s:Nat)=>(x m).getD s 0
 let J:=λ(m:ao)(s:Nat)=>(dz (q m s)).length
 let d1:=λ(m:ao)(s:Nat)=>dz ((eR (x m)).getD s 0)
 let d2:=λ(m:ao)=>m.snd
 let K:=λ(m:ao)=>(d2 m).fst
 let d:=λ(m:ao)=>(K m).fst
 let L:=λ(m:ao)=>(dz (d m)).length
 let M:=λ(m:ao)=>(d2 m).snd
 let e:=λ(m:ao)=>(M m).fst
 let N:=λ(m:ao)=>(dz (e m)).length
 let d3:=λ(m:List (List Ω))(s:Int)(X:ao)(y1:Bool)=>ja m (H s) (nn X) y1/\c8 m s/\ab 5 (y1=y1/\c9 m s)/\k/\c0/\k/\((y X
  =(eR (x X)).length/\∀i,i<y X->decide (q X i<0)=decide ((eR (x X)).getD i 0<0)/\(J X i=(d1 X i).length/\∀(b:Nat),b<J X
  i->(dz (q X i)).getD b 0=(d1 X i).getD b 0/\True)/\True)/\decide (d X<0)=decide (zz (d X)<0)/\(L X=(dz (zz (d X))).length/\∀(i:Nat),
  i<L X->(dz (d X)).getD i 0=(dz (zz (d X))).getD i 0/\True)/\sm (K X).snd/\decide (e X<0)=decide (zz (e X)<0)/\(N X=(dz (zz (e X))).length
  /\∀i,i<N X->(dz (e X)).getD i 0=(dz (zz (e X))).getD i 0/\True)/\sm (M X).snd/\True)/\True
 let r:=λ(m:List (List Ω))(s:Int)=>(aJ (C5 (o m s))).fst
 let t:=λ(m:List (List Ω))(s:Int)=>(r m s).fst
 let z:=λ(m:List (List Ω))(s:Int)=>(t m s).length
 let u:=λ(m:List (List Ω))(s:Int)(X:Nat)=>(t m s).getD X 0
 let O:=cR
 let d4:=λ(m:List (List Ω))(s:Int)=>(r m s).snd
 let A:=λ(m:List (List Ω))(s:Int)=>(d4 m s).fst
 let B:=λ(m:List (List Ω))(s:Int)=>(d4 m s).snd
 let d5:=λ(m:List (List Ω))(s:Int)=>(∀i,i<z m s->p/\g.ak (g.enc (u m s i)))/\O.ak (yc (A m s))/\O.ak (yc (B m s))
 let h:=λ(m:List (List Ω))(s:Int)=>(A m s).fst
 let C:=λ(m:List (List Ω))(s:Int)=>zz (h m s)
 let d6:=λ(m:List (List Ω))(s:Int)=>aW (C m s)==0
 let D:=λ(m:List (List Ω))=>(dD m).fst.fst
 let d7:=λ(m:List (List Ω))(s:Nat)=>decide ((D m).getD s 0<0)
 let P:=λ(m:List (List Ω))(s:Int)(X:Nat)=>(dz (u m s X)).length
 let d8:=λ(m:List (List Ω))(s:Nat)=>(dz ((D m).getD s 0)).length
 let d9:=λ(m:List (List Ω))(s X:Nat)=>(dz ((D m).getD s 0)).getD X 0
 let e0:=λ(m:List (List Ω))=>(dD m).fst.snd
 let E:=λ(m:List (List Ω))=>(e0 m).fst
 let e1:=λ(m:List (List Ω))=>decide ((E m).fst<0)
 let Q:=λ(m:List (List Ω))(s:Int)=>(dz (h m s)).length
 let e2:=λ(m:List (List Ω))=>(dz (E m).fst).length
 let e3:=λ(m:List (List Ω))(s:Nat)=>(dz (E m).fst).getD s 0
 let f:=λ(m:List (List Ω))(s:Int)=>(B m s).fst
 let F:=λ(m:List (List Ω))=>(e0 m).snd
 let e4:=λ(m:List (List Ω))=>decide ((F m).fst<0)
 let R:=λ(m:List (List Ω))(s:Int)=>(dz (f m s)).length
 let e5:=λ(m:List (List Ω))=>(dz (F m).fst).length
 let e6:=λ(m:List (List Ω))(s:Nat)=>(dz (F m).fst).getD s 0
 let e7:=λ(m:List (List Ω))(s:Int)=>ja m (H s) (nn (r m s)) true/\c8 m s/\ab 5 (p/\c9 m s)/\k/\c0/\k/\((z m s=(eR (t m s)).length
  /\∀i,i<z m s->decide (u m s i<0)=decide ((eR (t m s)).getD i 0<0)/\(P m s i=(dz ((eR (t m s)).getD i 0)).length/\∀(b:Nat),b<P
  m s i->(dz (u m s i)).getD b 0=(dz ((eR (t m s)).getD i 0)).getD b 0/\True)/\True)/\decide (h m s<0)=decide (C m s<0)/\(Q m s=(dz (C m s)).length
  /\∀i,i<Q m s->(dz (h m s)).getD i 0=(dz (C m s)).getD i 0/\True)/\sm (A m s).snd/\decide (f m s<0)=decide (zz (f m s)<0)/\(R m s=(dz (zz
  (f m s))).length/\∀i,i<R m s->(dz (f m s)).getD i 0=(dz (zz (f m s))).getD i 0/\True)/\sm (B m s).snd/\True)/\True
 let e8:=λ(m:List (List Ω))(s:Int)=>(d5 m s/\dp (yy (A m s))/\dp (yy (B m s)))/\(Ac (nn (r m s))=true->True/\(g.ak (zc (h m s))/\
  fit (C m s))/\True/\(d6 m s=true->ab 3 ((((z m s=(D m).length/\∀i,i<z m s->decide (u m s i<0)=d7 m i/\(P m s i=d8 m i/\∀(b:Nat),
  b<P m s i->(dz (u m s i)).getD b 0=d9 m i b/\True)/\True)/\decide (h m s<0)=e1 m/\(Q m s=e2 m/\∀i,i<Q m s->(dz (h m s)).getD i
  0=e3 m i/\True)/\(A m s).snd=(E m).snd/\decide (f m s<0)=e4 m/\(R m s=e5 m/\∀i,i<R m s->(dz (f m s)).getD i 0=e6 m i/\True)/\(B m
  s).snd=(F m).snd/\True)/\(dD m).snd=true/\True)/\True))/\(d6 m s=false->True/\e7 m s))/\(Ac (nn (r m s))=false->ab 2 (e7 m s))
 ab 4 ((ja l 0 d0 false/\ab 5 (T/\ab 4 (c2 l/\c l=c l/\w/\c3))/\k/\c0/\k/\(c1/\T/\c1/\w/\T/\c1/\w/\True)/\True)/\∀(n:Int)(a:ao)
  (Z:Bool),ja l n a Z->True/\(decide (n<c l)=true->(0<=n/\n<c l)/\ab 2 (((∀i,i<(o l n).length->p/\∀(b:Nat),b<((o l
  n).getD i []).length->p/\g.ak (g.enc (((o l n).getD i []).getD b 0)))/\lP (C5 (o l n)))/\True/\(c7 l n=true->ab 2 (d3 l n a Z))/\(c7 l n=false
  ->(Z=true->ab 2 (((d5 l n/\(∀i,i<y a->p/\g.ak (g.enc (q a i)))/\O.ak (yc (K a))/\O.ak (yc (M a)))/\il (nn (r l n)) (nn a))/\True
  /\(p->True/\d3 l n a Z)/\(true=false->ab 2 (e8 l n))))/\(Z=false->ab 3 (e8 l n)))))/\(decide (n<c l)=false->ab 3 ((((y a=(D l).length/\
  ∀i,i<y a->decide (q a i<0)=d7 l i/\(J a i=d8 l i/\∀(b:Nat),b<J a i->(dz (q a i)).getD b 0=d9 l i b/\True)/\True)/\decide
  (d a<0)=e1 l/\(L a=e2 l/\∀i,i<L a->(dz (d a)).getD i 0=e3 l i/\True)/\(K a).snd=(E l).snd/\decide (e a<0)=e4 l/\(N a=e5 l/\∀
  (i:Nat),i<N a->(dz (e a)).getD i 0=e6 l i/\True)/\(M a).snd=(F l).snd/\True)/\Z=(dD l).snd/\True)/\True))))=SY l:=by kernel_rfl
theorem PB(y:Int×Int):(
 let c:=λ(x:Int×Int)=>x.fst
 ab 2 ((aj.ak (zc (c y))/\fit (zz (c y)))/\ru true/\True/\(decide (zz (c y)<0)=decide (c y<0)/\((dz (zz (c y))).length=(dz (c y)).length/\∀(i
  :Nat),i<(dz (zz (c y))).length->(dz (zz (c y))).getD i 0=(dz (c y)).getD i 0/\True)/\y.snd=y.snd/\True)/\True))=TV y:=by kernel_rfl
theorem Nn(q:ao):(
 let c:=λ(x:ao)=>x.fst
 let p:=λ(x:ao)=>x.snd
 let k:=λ(x:ao)=>(p x).fst
 let d:=λ(x:ao)=>zz (k x).fst
 let o:=λ(x:ao)=>(p x).snd
 let e:=λ(x:ao)=>zz (o x).fst
 let r:=λ(x:ao)=>(ae (eR (c x))).length
 let f:=λ(x:ao)=>(nm x).fst
 let g:=λ(x:ao)(y:Nat)=>(ae (eR (c x))).getD y 0
 let s:=λ(x:ao)=>(nm x).snd
 let h:=λ(x:ao)=>(s x).fst
 let j:=λ(x:ao)=>(s x).snd
 ab 2 (((∀i,i<(c q).length->true=true/\aj.ak (aj.enc ((c q).getD i 0)))/\cr (eR (c q)))/\True/\(cR.ak (yc (k q))/\fit (d q))/\True
  /\(cR.ak (yc (o q))/\fit (e q))/\ru true/\True/\((r q=(f q).length/\∀i,i<r q->decide (g q i<0)=decide ((f q).getD i 0<0)/\((dz (g
  q i)).length=(dz ((f q).getD i 0)).length/\∀(b:Nat),b<(dz (g q i)).length->(dz (g q i)).getD b 0=(dz ((f q).getD i 0)).getD b 0/\True)/\True)
  /\decide (d q<0)=decide ((h q).fst<0)/\((dz (d q)).length=(dz (h q).fst).length/\∀i,i<(dz (d q)).length->(dz (d q)).getD i 0=(dz (h q).fst).getD
  i 0/\True)/\(k q).snd=(h q).snd/\decide (e q<0)=decide ((j q).fst<0)/\((dz (e q)).length=(dz (j q).fst).length/\∀i,i<(dz (e q)).length
  ->(dz (e q)).getD i 0=(dz (j q).fst).getD i 0/\True)/\(o q).snd=(j q).snd/\True)/\True))=SK q:=by kernel_rfl
theorem PL(l:List (List Ω)):(
 let q:=λ(m:List (List Ω))=>m.length
 let d:=λ(m:List (List Ω))=>(↑(q m):Int)
 let x:=λ(m:List (List Ω))=>decide (d m>64)
 let r:=ab 2 (false=true/\True)
 let j:=λ(m:List (List Ω))(E:Nat)=>m.getD E []
 let k:=λ(m:List (List Ω))=>q m=q m/\∀i,i<q m->(sm (j m i).length/\∀(G:Nat),G<(j m i).length->(sm ((j m i).getD G
  []).length/\∀(H:Nat),H<((j m i).getD G []).length->pW (((j m i).getD G []).getD H 0))/\True)/\True
 let o:=λ(m:List (List Ω))=>d m=d m
 let t:=sm (0:Int)
 let y:=ab 29 True
 let e:=λ(m:Int)=>0<=m
 let s:=λ(m:List (List Ω))(E:Int)=>m.getD E.toNat []
 let u:=λ(m:List (List Ω))(E:Int)=>(s m E).length
 let c:=λ(m:List (List Ω))(E:Int)=>(↑(u m E):Int)
 let z:=λ(m:List (List Ω))(E:Int)=>decide (c m E>16)
 let A:=λ(m:List (List Ω))(E:Int)(y1:Nat)=>((s m E).getD y1 []).length
 let v:=λ(m:List (List Ω))(E:Int)=>sm (u m E)/\∀i,i<u m E->(sm (A m E i)/\∀(G:Nat),G<A m E i->pW (((s m E).getD
  i []).getD G 0))/\True
 let w:=ab 20 True
 let f:=λ(m:List (List Ω))(E y1:Int)=>(s m E).getD y1.toNat []
 let h:=λ(m:List (List Ω))(E y1:Int)=> ↑(tl (eR (f m E y1)))-(1:Int)
 let p:=λ(m:List (List Ω))(E y1:Int)=>(↑(tl (f m E y1)):Int)
 let B:=λ(m:List (List Ω))(E y1:Int)=>sm (f m E y1).length/\∀i,i<(f m E y1).length->pW ((f m E y1).getD i 0)
 let C:=λ(m:List (List Ω))(E y1:Int)=>ab 3 (k m/\o m/\E=E/\ab 6 (v m E/\c m E=c m E/\y1=y1/\w))
 let D:=λ(m:List (List Ω))(E y1 J:Int)=>decide (bl (zz ((f m E y1).getD J.toNat 0))>200)
 let g:=λ(m:Int)=>W (m+1)
 ab 2 ((x l=true->r)/\(x l=false->True/\(dM (d l) 0/\ab 12 (k l/\o l/\t/\y)/\True)/\∀(n:Int),dM (d l) n->True/\(decide (n<d l)=true
  ->(e n/\n<d l)/\ab 2 ((z l n=true->r)/\(z l n=false->True/\((e n/\n<d l/\dM (c l n) 0)/\ab 12 (k l/\o l/\n=n/\ab 6 (v l n/\c l n=
  c l n/\t/\w))/\True)/\∀(b:Int),e n/\n<d l/\dM (c l n) b->True/\(decide (b<c l n)=true->(e b/\b<c l n)/\ab 2 (((∀(i:Nat),
  i<(f l n b).length->true=true/\aj.ak (aj.enc ((f l n b).getD i 0)))/\cr (eR (f l n b)))/\ab 2 ((decide (h l n b>8)=true->r)/\(decide
  (h l n b>8)=false->True/\((e n/\n<d l/\e b/\b<c l n/\dM (p l n b) 0)/\ab 6 (B l n b/\sm (h l n b)/\t/\C l n b)/\True)/\∀(F
  :Int),e n/\n<d l/\e b/\b<c l n/\dM (p l n b) F->True/\(decide (F<=h l n b)=true->(e F/\F< ↑(f l n b).length)/\True/\(aj.ak
  (zc ((f l n b).getD F.toNat 0))/\fit (zz ((f l n b).getD F.toNat 0)))/\True/\(D l n b F=true->r)/\(D l n b F=false->True/\(e n/\n<d
  l/\e b/\b<c l n/\dM (p l n b) (g F))/\(p l n b-g F).toNat<(p l n b-F).toNat/\ab 6 (B l n b/\sm (h l n b)/\sm (g F)/\C
  l n b)/\True))/\(decide (F<=h l n b)=false->True/\(e n/\n<d l/\dM (c l n) (g b))/\(c l n-g b).toNat<(c l n-b).toNat/\ab 12 (k
  l/\o l/\n=n/\ab 6 (v l n/\c l n=c l n/\sm (g b)/\w))/\True)))))/\(decide (b<c l n)=false->True/\dM (d l) (g n)/\(d l-g n).toNat<(d
  l-n).toNat/\ab 12 (k l/\o l/\sm (g n)/\y)/\True))))/\(decide (n<d l)=false->ab 2 (false=false/\True)))))=Tt l:=by kernel_rfl
theorem PU(l:List (List Ω)):(
 let h:=true=true
 let j:=λ(m:List (List Ω))(J:Nat)=>m.getD J []
 let k:=aj
 let r:=λ(m:List (List Ω))=>∀i,i<m.length->h/\∀(b:Nat),b<(j m i).length->h/\∀(H:Nat),H<((j m i).getD b []).length
  ->h/\k.ak (k.enc (((j m i).getD b []).getD H 0))
 let G:=λ(m:List (List Ω))=>λi=>EZ.enc (j m i)
 let o:=λ(m:List (List Ω))=>ah EZ m.length (G m)
 let c:=λ(m:List (List Ω))=>(nm (dD m).fst).fst
 let s:=λ(m:List (List Ω))=>(nm (dD m).fst).snd
 let d:=λ(m:List (List Ω))=>(s m).fst
 let t:=λ(m:List (List Ω))=>decide ((d m).fst<0)
 let u:=λ(m:List (List Ω))=>(dz (d m).fst).length
 let e:=λ(m:List (List Ω))=>(s m).snd
 let v:=λ(m:List (List Ω))=>decide ((e m).fst<0)
 let w:=λ(m:List (List Ω))=>(dz (e m).fst).length
 let x:=λ(m:List (List Ω))=>(c m).length=0/\t m=false/\u m=0/\0=(d m).snd/\v m=false/\w m=0/\0=(e m).snd/\True
 let y:=λ(m:List (List Ω))=> !(dD (o m)).snd
 let z:=sm (0:Int)/\True
 let f:=λ(m:List (List Ω))=>(dD (o m)).fst
 let A:=λ(m:List (List Ω))=>(f m).fst
 let B:=λ(m:List (List Ω))=>(f m).snd
 let g:=λ(m:List (List Ω))=>(nm (nn (f m))).fst
 let C:=λ(m:List (List Ω))(J:Nat)=>(dz ((g m).getD J 0)).length
 let D:=λ(m:List (List Ω))=>(nm (nn (f m))).snd
 let p:=λ(m:List (List Ω))=>(D m).fst
 let E:=λ(m:List (List Ω))=>(dz (p m).fst).length
 let q:=λ(m:List (List Ω))=>(D m).snd
 let F:=λ(m:List (List Ω))=>(dz (q m).fst).length
 ab (2:Nat) ((r l/\HD (o l))/\True/\(false=true->ab (4:Nat) ((x l/\(dD l).snd=false/\(2:Int)=(0:Int)/\True)/\True))/\(false=false->
  True/\(r l/\sR (o l))/\ab (2:Nat) ((y l=true->ab (4:Nat) ((x l/\(dD l).snd=false/\z)/\True))/\(y l=false->True/\(((∀i,i<(A
  l).length->h/\k.ak (k.enc ((A l).getD i (0:Int))))/\cR.ak (yc (B l).fst)/\cR.ak (yc (B l).snd))/\pI (nn (f l)))/\ab (4:Nat) (((((g l).length
  =(c l).length/\∀i,i<(g l).length->decide ((g l).getD i (0:Int)<(0:Int))=decide ((c l).getD i (0:Int)<(0:Int))/\(C l i=(dz ((c l).getD
  i (0:Int))).length/\∀(b:Nat),b<C l i->(dz ((g l).getD i (0:Int))).getD b (0:Int)=(dz ((c l).getD i (0:Int))).getD b (0:Int)/\True)/\
  True)/\decide ((p l).fst<(0:Int))=t l/\(E l=u l/\∀i,i<E l->(dz (p l).fst).getD i (0:Int)=(dz (d l).fst).getD i (0:Int)/\True)/\(p
  l).snd=(d l).snd/\decide ((q l).fst<(0:Int))=v l/\(F l=w l/\∀i,i<F l->(dz (q l).fst).getD i (0:Int)=(dz (e l).fst).getD i (0:Int)
  /\True)/\(q l).snd=(e l).snd/\True)/\(dD l).snd=true/\z)/\True))))))=SI l:=by kernel_rfl
theorem R9(l:List (List Ω)):(
 let d:=true=true
 let c:=λ(x:List (List Ω))(y:Nat)=>x.getD y []
 let f:=λ(x:List (List Ω))=>λi=>EZ.enc (c x i)
 let e:=λ(x:List (List Ω))=>ah EZ x.length (f x)
 ab (2:Nat) (((∀i,i<l.length->d/\∀(b:Nat),b<(c l i).length->d/\∀(h:Nat),h<((c l i).getD b []).length->d/\aj.ak (aj.enc
  (((c l i).getD b []).getD h (0:Int))))/\jM (e l))/\ab (4:Nat) (((dD (e l)).snd=(dD l).snd/\sm (0:Int)/\True)/\True)))=XD l:=by kernel_rfl
theorem Mr(l:List (List Ω)):(ah EZ l.length λi=>EZ.enc (l.getD i []))=l:=iJ (C:=EZ) rfl
theorem yO:dD []=(d0,false):=by kernel_rfl
theorem vE(c:List Ω)(r:List (List Ω)):dD (c::r)=if(aJ c).2 then aJ c else dD r:=by kernel_rfl
theorem ZI{l:List (List Ω)}{i:Nat}(h:i<l.length):l.drop i=l.getD i []::l.drop (i+1):=by
 rw[Qa h,J0,J4 h];rfl
theorem WL{c:List (List Ω)}{i:Nat}(h:i<c.length):c.getD i []∈c:=by
 rw[J0,J4 h];exact Ku _
theorem GK{l:List (List Ω)}(h:sR l):l.length<=64/\(∀c∈l,lP c/\((aJ c).2=true->dp (aJ c).1.2.1/\dp (aJ c).1.2.2))/\∀i j,i<j->j<l.length->(aJ (l.getD i [])).2=true->(aJ (l.getD j [])).2=false:=by unfold sR at h;exact h
theorem PA{l:List (List Ω)}(h:HD l):l.length<=64/\∀c∈l,c.length<=16/\∀p∈c,p.length<=9/\∀z∈p,z.natAbs<2^200:=by unfold HD at h;exact h
theorem BT(a:ao):nm a=(ae a.1,a.2.1,a.2.2):=by unfold nm;rfl
theorem memZ{c:Ω}{i:Nat}(h:i<c.length):c.getD i 0∈c:=by
 rw[J0,J4 h];exact Ku _
theorem AH:∀{l:List (List Ω)},(dD l).2=false->dD l=(d0,false)
 |[],_=>yO
 |c::r,h=>by
  rw[vE]at h⊢;cases b:(aJ c).2 with
  |true=>rw[b,JB rfl,b]at h;cases h
  |false=>rw[b,JA (by decide)]at h;rw[JA (by decide)];exact AH h
theorem k227:aH prog Uo:=av k285 hm func227 (by kernel_rfl) (by kernel_rfl) sW.ok (by kernel_rfl) (λa=>a227 a) λa y=>by
 have h:SY a:=by
  rw[<-LJ];(conv=>zeta);simp only[aA];generalize a=l at*
  try dsimp only at y
  simp[-List.getD_eq_getElem?_getD];obtain⟨X,r,K⟩:=GK y;refine⟨by unfold ja;exact⟨by omega,by omega,by rw[JA (by decide)];exact⟨rfl,rfl⟩⟩,λn z A B C D=>?_⟩;generalize k:((z,(A,B),C,D):ao)=x;have q:z=x.1:=by rw[<-k]
  have E:A=x.2.1.1:=by rw[<-k]
  have F:B=x.2.1.2:=by rw[<-k]
  have G:C=x.2.2.1:=by rw[<-k]
  have H:D=x.2.2.2:=by rw[<-k]
  rw[q,E,F,G,H];clear k q E F G H;refine⟨λb=>?_,λb=>?_⟩
  . unfold ja at b;obtain⟨u,L,m⟩:=b;rw[JA (by decide)]at m;obtain⟨rfl,d⟩:=m;refine⟨λo=>?_,λo=>?_⟩
    . have hm:=WL (c:=l) (i:=n.toNat) (by omega);have w:=aO (n:=n+1) (by omega) (by omega);have q:(n+1).toNat=n.toNat+1:=by omega
      rw[ZI (by omega),vE]at d;rw[w];refine⟨⟨u,o⟩,(r _ hm).1,λe=>⟨?_,by omega⟩,λe=>?_⟩
      . rw[e,JA (by decide)]at d;unfold ja;rw[JA (by decide),q];exact⟨by omega,by omega,rfl,d⟩
      . rw[JB e]at d;have J:=(r _ hm).2 e;have p:ja l (n+1) (aJ (l.getD n.toNat [])).fst true:=by
         unfold ja;rw[JB rfl,<-d];refine⟨by omega,by omega,by rw[<-e],λj M N=>K n.toNat j.toNat (by omega) (by omega) e⟩
        refine⟨J,λk=>⟨(oe J.1).1,λO=>?_,λO=>⟨p,by omega⟩⟩,λk=>⟨p,by omega⟩⟩;rw[<-d];exact⟨qE _,e⟩
    . rw[Y6 (by omega),yO]at d;rw[<-d];exact⟨qE d0,rfl⟩
  . unfold ja at b;obtain⟨u,L,m⟩:=b;rw[JB rfl]at m;obtain⟨m,d⟩:=m;refine⟨λo=>?_,λo=>?_⟩
    . have hm:=WL (c:=l) (i:=n.toNat) (by omega);have w:=aO (n:=n+1) (by omega) (by omega);have R:=d n (by omega) o;rw[w];refine⟨⟨u,o⟩,(r _ hm).1,λe=>⟨?_,by omega⟩,λe=>?_⟩
      . unfold ja;rw[JB rfl];exact⟨by omega,by omega,m,λj M=>d j (by omega)⟩
      . rw[R]at e;cases e
    . rw[<-m];exact⟨qE x,rfl⟩
 exact h
theorem k288:aH prog Up:=av k227 hm func288 (by kernel_rfl) (by kernel_rfl) sY1.ok (by kernel_rfl) (λ_=>[]) λa b=>by
 have h:TV a:=by
  rw[<-PB];(conv=>zeta);simp only[aA];generalize a=y at*
  try dsimp only at b
  simp[-List.getD_eq_getElem?_getD];exact b
 exact h
theorem k228:aH prog VO:=av k288 hm func228 (by kernel_rfl) (by kernel_rfl) sN.ok (by kernel_rfl) (λ_=>[]) λa b=>by
 have h:SK a:=by
  rw[<-Nn];(conv=>zeta);simp only[aA];generalize a=q at*
  try dsimp only at b
  simp[-List.getD_eq_getElem?_getD];unfold pI at b;rw[BT];exact⟨b.1,b.2.1,b.2.2,qE (ae q.1,q.2.1,q.2.2)⟩
 exact h
theorem k226:aH prog VL:=av k228 hm func226 (by kernel_rfl) (by kernel_rfl) sW.ok (by kernel_rfl) (λa=>Zv a) λa p=>by
 have h:Tt a:=by
  rw[<-PL];(conv=>zeta);simp only[aA];generalize a=l at*
  try dsimp only at p
  simp[-List.getD_eq_getElem?_getD];obtain⟨D,r⟩:=PA p;refine⟨by omega,λ_=>⟨by unfold dM;omega,λn u w=>?_⟩⟩;unfold dM at u;have hm:=WL (c:=l) (i:=n.toNat) (by omega);obtain⟨E,x⟩:=r _ hm;refine⟨by omega,by omega,λ_=>⟨⟨by omega,by omega,by unfold dM;omega⟩,λj _ _ y=>⟨λe=>?_,λe=>?_⟩⟩⟩
  . unfold dM at y;have m:=Lq (c:=l.getD n.toNat []) (i:=j.toNat) (by omega);obtain⟨F,q⟩:=x _ m;have G:=cX ((l.getD n.toNat []).getD j.toNat []);have b:∀z∈(l.getD n.toNat []).getD j.toNat [],fit z:=λz A=>fX (k:=7) (by
     have:=q z A;have H:(2:Nat)^200<=2^(32*7):=by decide
     have B:((2^(32*7):Nat):Int)=(2:Int)^(32*7):=by norm_cast
     rw[fE];omega) (by omega)
    refine⟨by omega,Ir (by omega) b,by omega,λ_=>⟨⟨by omega,by omega,by omega,by omega,by unfold dM;omega⟩,λk _ _ _ _ C=>⟨λo=>?_,λo=>?_⟩⟩⟩
    . unfold dM at C;have d:((l.getD n.toNat []).getD j.toNat []).getD k.toNat 0∈(l.getD n.toNat []).getD j.toNat []:=by
       exact memZ (by omega)
      refine⟨by omega,b _ d,?_,λ_=>⟨⟨by omega,by omega,by omega,by omega,?_⟩,?_⟩⟩
      . unfold bl;have:=xJ (q _ d);omega
      . rw[aO (n:=k+1) (by omega) (by omega)];unfold dM;omega
      . rw[aO (n:=k+1) (by omega) (by omega)];omega
    . rw[aO (n:=j+1) (by omega) (by omega)];refine⟨⟨by omega,by omega,?_⟩,by omega⟩;unfold dM;omega
  . rw[aO (n:=n+1) (by omega) (by omega)];refine⟨?_,by omega⟩;unfold dM;omega
 exact h
theorem k167:aH prog Va:=av k226 hm func167 (by kernel_rfl) (by kernel_rfl) sW.ok (by kernel_rfl) (λ_=>[]) λa c=>by
 have h:SI a:=by
  rw[<-PU];(conv=>zeta);simp only[aA];generalize a=l at*
  try dsimp only at c
  simp[-List.getD_eq_getElem?_getD,Mr];unfold jM at c;obtain⟨d,e,i⟩:=c;refine⟨d,e,λb=>?_,λb=>⟨i b,b⟩⟩;rw[AH b,BT,show ae ((d0,false):ao×Bool).1.1=[] by rw[dq];exact List.take_nil];exact⟨qT,rfl⟩
 exact h
theorem k86:aH prog T86:=av k167 hm func86 (by kernel_rfl) (by kernel_rfl) sW.ok (by kernel_rfl) (λ_=>[]) λa b=>by
 have h:XD a:=by
  rw[<-R9];(conv=>zeta);simp only[aA];generalize a=l at*
  try dsimp only at b
  simp[-List.getD_eq_getElem?_getD,Mr];exact b
 exact h
end Go.Proofs.Big
