import Derived.Test.YtpjiopgakifhaaaGreatTJ
import Derived.Test.YtpjiopgakifhaaaGreatTS
set_option linter.unusedSectionVars false
set_option linter.unusedSimpArgs false
set_option linter.unusedVariables false
set_option maxRecDepth 100000
namespace Go.Proofs.Big
open Go Go.Sx Go.Proofs
variable [bW]
set_option maxHeartbeats 4000000
attribute [local irreducible] lm nv tl dg dz
def RE (l:List (List Int)):List (List Int):=ah fm l.length fun i=>fm.enc (l.getD ((0:Nat)+i) ([]:List Int))
def JQ (y:Int×Int):ao:=([-(eV y.1 y.2).1,2^(eV y.1 y.2).2.toNat],eV y.1 y.2,eV y.1 y.2)
def vT (y:Int×Int):Prop:=pL y.1 y.2/\dp (eV y.1 y.2)
def bq (c:List (List Int)):List (List Int):=(c.map ae).filter fun p=> !eF p
def fD (c:List (List Int)):Bool:=(c.map ae).any eY
def gI (c:List (List Int)):Bool:=(bq c).all fun p=>decide (0<gj p)
def mZ (ts:List ao) (i:Nat):Int×Int:=bb (ts.getD i d0).2.2 (if i+1<ts.length then(ts.getD (i+1) d0).2.1 else y1)
def jS (o:List (List Int)) (y:Int×Int):Bool:=o.all fun p=>decide (0<aW (cY p y))
def jE (o:List (List Int)) (ts:List ao):Nat->Nat->ao×Bool
 |0,_=>(d0,false)
 |k+1,i=>if jS o (mZ ts i)then(ts.getD i d0,true)else jE o ts k (i+1)
def aJ (c:List (List Int)):ao×Bool:=if fD c then(d0,false)else if gI c then(JQ (0,0),true)else
 jE (bq c) (aC ((bq c).getD 0 [])) (aC ((bq c).getD 0 [])).length 0
def lP (c:List (List Int)):Prop:=c.length<=10/\(∀p∈c,eO p)/\(fD c=false->gI c=false->qJ (bq c)/\(aC ((bq c).getD 0 [])).length<=2/\
 ∀i,i<(aC ((bq c).getD 0 [])).length->dp ((aC ((bq c).getD 0 [])).getD i d0).2.1/\dp ((aC ((bq c).getD 0 [])).getD i d0).2.2/\ ∀p∈bq c,bM p (mZ (aC ((bq c).getD 0 [])) i))
def cj (c:List (List Int)) (i:Int) (o:List (List Int)) (now:Bool):Prop:=0<=i/\i<=c.length/\fD (c.take i.toNat)=false/\o=bq (c.take i.toNat)/\now=gI (c.take i.toNat)
def eA (c:List (List Int)) (i:Int):Prop:=0<=i/\i<=(aC ((bq c).getD 0 [])).length/\fD c=false/\gI c=false/\aJ c=jE (bq c) (aC ((bq c).getD 0 [])) ((aC ((bq c).getD 0 [])).length-i.toNat) i.toNat
def cW (o:List (List Int)) (y:Int×Int) (j:Int):Prop:=0<=j/\j<=o.length/\jS (o.take j.toNat) y=true
attribute [irreducible] JQ vT bq fD gI mZ jS jE aJ lP cj eA cW
def sY1 :=iR.one AB
def c352 :bB:=fl sY1.dec (fun a=>vT a) (fun a=>nS (JQ a))
def UC :List (Nat×bB):=(352,c352)::Wi
def SW (y:Int×Int):Prop:=fQ Wi Tryz.f352 [] [yS y] (nS (JQ y))
def c258r :bB:=fl sP.dec (fun a=>cr a) (fun a=>pS (ae a))
def Pc :List (Nat×bB):=(258,c258r)::UC
def T3 (p:List Int):List kM:=[⟨.unit, .list [.int .i64 (.tm 15), .iQ aj (tl p) 0 0],fun _ (x:Int×List Int)=>eI p x.1 x.2,fun _ (x:Int×List Int)=>(tl p-x.1).toNat⟩]
def ON (p:List Int):Prop:=fQ UC Tryz.f258 (T3 p) [pS p] (pS (ae p))
def c285 :bB:=fl sQ.dec (fun a=>lP a) (fun a=> .bp [nS (aJ a).1, .bool (aJ a).2])
def VY :List (Nat×bB):=(285,c285)::Pc
def aaj (c:List (List Int)):List kM:=[⟨.unit, .list [.int .i64 (.tm 19), .ah fm 1 218 [.tm 4], .bool (.tm 5)],fun _ (x:Int×List (List Int)×Bool)=>cj c x.1 x.2.1 x.2.2,fun _ (x:Int×List (List Int)×Bool)=>(c.length-x.1).toNat⟩,⟨.unit, .list [.int .i64 (.tm 52)],fun _ (x:Int)=>eA c x,fun _ (x:Int)=>((aC ((bq c).getD 0 [])).length-x).toNat⟩,⟨.int .i64 (.tm 52), .list [.int .i64 (.tm 75)],fun(i:Int) (x:Int)=>cW (bq c) (mZ (aC ((bq c).getD 0 [])) i.toNat) x,fun(i:Int) (x:Int)=>((bq c).length-x).toNat⟩]
def TC (c:List (List Int)):Prop:=fQ Pc Tryz.f285 (aaj c) [qS c] (.bp [nS (aJ c).1, .bool (aJ c).2])
theorem Mv (y:Int×Int):(
 let p:=fun(x:Int×Int)=>eV (zz x.fst) x.snd
 let c:=fun(x:Int×Int)=>(p x).fst
 let d:=aF IntKind.u32
 let w:=fun(x:Nat)=>d.enc ([1].getD x 0)
 let q:=fun i=>w i
 let r:=zv false (ah d 1 q)
 let e:=fun(x:Int×Int)=>(p x).snd
 let f:=fun(x:Int×Int)=>(JQ x).fst
 let k:=fun(x:Nat)=>decide (0+x=1)
 let o:=fun(x:Int×Int)=>r*2^(e x).toNat
 let s:=fun(x:Nat)=>decide (0+x=0)
 let t:=fun(x:Int×Int)=>dz (-zz (eV (zz x.fst) x.snd).fst)
 let u:=fun(x:Nat) (y:Int×Int)=>if k x=true then(dz (o y)).length else if s x=true then(t y).length else 0
 let v:=fun(x:Int×Int)=>(JQ x).snd
 let g:=fun(x:Int×Int)=>(v x).fst
 let h:=fun(x:Int×Int)=>(dz (c x)).length
 let j:=fun(x:Int×Int)=>(v x).snd
 ab 3 (((aj.ak (zc y.fst)/\True)/\pL (zz y.fst) y.snd)/\ab 2 ((aj.ak (zc (c y))/\fit (zz (c y)))/\True/\(True/\fN 1)/\ab 2 (((aj.ak
  [SV.bool false,SV.aI 1 1 q]/\True)/\fit r/\di (e y))/\ru true/\(2<=2/\ ∀(i:Nat),i<2->true=true)/\ab 6 (((2=(f y).length/\ ∀(i:Nat),
  i<2->(if k i=true then decide (o y<0)else if s i=true then decide (-zz (eV (zz y.fst) y.snd).fst<0)else false)=decide ((f y).getD i 0<0)/\(u
  i y=(dz ((f y).getD i 0)).length/\ ∀(i_1:Nat),i_1<u i y->oP (if k i=true then d.enc ((dz (o y)).getD i_1 0)else d.enc ((t y).getD i_1 0)) (d.enc ((dz
  ((f y).getD i 0)).getD i_1 0)))/\True)/\decide (c y<0)=decide ((g y).fst<0)/\(h y=(dz (g y).fst).length/\ ∀(i:Nat),i<h y->(dz (c y)).getD i 0=
  (dz (g y).fst).getD i 0/\True)/\e y=(g y).snd/\decide (c y<0)=decide ((j y).fst<0)/\(h y=(dz (j y).fst).length/\ ∀(i:Nat),i<h y->(dz (c y)).getD
  i 0=(dz (j y).fst).getD i 0/\True)/\e y=(j y).snd/\True)/\True)))))=SW y:=by kernel_rfl
theorem KR (p:List Int):(
 let c:=aj
 let f:=fun(x:List Int) (m:Nat)=>x.getD m 0
 let g:=fun(x:List Int)=>W (↑(tl (eR x))-1+1)
 let t:=fun(x:List Int)=>g x==0
 let q:=fun(m:List Int)=>ah c (tl m) fun x=>[SV.ff,SV.aq]
 let u:=fun(x:List Int)=>x.length=x.length/\ ∀(i:Nat),i<x.length->pW (f x i)
 let d:=fun(x:List Int)=>(g x).toNat
 let v:=fun(x:List Int)=>sm 0/\sm (d x)
 let e:=fun(x:List Int)=>(↑(d x):Int)
 let w:=ab 12 True
 let j:=([]:List (Option (Nat×Nat)))
 let y:=2=c.n
 let h:=fun(x:List Int) (m:Int)=>zz (x.getD m.toNat 0)
 let r:=fun(x:Int)=>0+x.toNat
 let k:=fun(x:Nat) (m:Int)=>decide (x=r m)
 let o:=fun(x m:List Int) (x1:Int)=>ah c (tl x) fun i'=>af (k i' x1) (cE (c.enc (m.getD (r x1) 0)) 0 (zc (h x x1))) (c.enc (f m i'))
 let z:=fun(x:Nat) (m:Int) (x1 y1:List Int)=>if k x m=true then(dz (h x1 m)).length else(dz (f y1 x)).length
 let s:=aF IntKind.u32
 let A:=fun(x:List Int) (m:Nat)=>(dz (x.getD (0+m) 0)).length
 ab (2:Nat) (((∀(i:Nat),i<p.length->true=true/\c.ak (c.enc (f p i)))/\cr (eR p))/\ab (2:Nat) ((t p=true->ab (2:Nat) ((ae p).length
  =(0:Nat)/\True))/\(t p=false->(sm (g p)/\(0:Int)<=g p/\g p<=(9223372036854775807:Int)/\(32:Int)*g p<=(281474976710656:Int))/\ab (2:Nat)
  ((eI p (0:Int) (q p)/\(u p/\ab (3:Nat) (v p/\ab (9:Nat) (e p=e p/\sm (0:Int)/\w)))/\j=j/\((d p=tl p/\y/\ ∀(i:Nat),i<d p->decide
  ((q p).getD i (0:Int)<(0:Int))=false/\(dz ((q p).getD i (0:Int))).length=(0:Nat)/\True)/\True)/\True)/\ ∀(n:Int) (l:List Int),eI p n
  l->True/\(decide (n<e p)=true->True/\((0:Int)<=n/\n< ↑p.length)/\True/\(c.ak (zc (p.getD n.toNat (0:Int)))/\fit (h p n))/\((0:Int)<=n/\n
  <e p)/\r n<tl p/\ab (2:Nat) (eI p (W (n+(1:Int))) (o p l n)/\(↑(tl p)-W (n+(1:Int))).toNat<(↑(tl p)-n).toNat/\(u p/\ab (3:Nat) (v
  p/\ab (9:Nat) (e p=e p/\sm (W (n+(1:Int)))/\w)))/\j=j/\((tl p=tl p/\y/\ ∀(i:Nat),i<tl p->(if k i n=true then decide (h p n<(0:Int))
  else decide (f l i<(0:Int)))=decide ((o p l n).getD i (0:Int)<(0:Int))/\(z i n p l=(dz ((o p l n).getD i (0:Int))).length/\ ∀(i_1:Nat),i_1<
  z i n p l->bK (if k i n=true then s.enc ((dz (h p n)).getD i_1 (0:Int))else s.enc ((dz (f l i)).getD i_1 (0:Int))) (s.enc ((dz ((o p l n).getD i (0:Int))).getD
  i_1 (0:Int))))/\True)/\True)/\True))/\(decide (n<e p)=false->True/\((0:Nat)+d p<=tl p/\ ∀(i:Nat),i<tl p->true=true)/\(d p=(ae p).length
  /\ ∀(i:Nat),i<d p->decide (l.getD ((0:Nat)+i) (0:Int)<(0:Int))=decide ((ae p).getD i (0:Int)<(0:Int))/\(A l i=(dz ((ae p).getD i
  (0:Int))).length/\ ∀(i_1:Nat),i_1<A l i->(dz (l.getD ((0:Nat)+i) (0:Int))).getD i_1 (0:Int)=(dz ((ae p).getD i (0:Int))).getD i_1 (0:Int)
  /\True)/\True)/\True))))))=ON p:=by kernel_rfl
theorem NA (c:List (List Int)):(
 let t:=sm 0
 let k:=true=true
 let e:=fun(m:List (List Int))=>m.length
 let H:=fun(m:List (List Int))=>e m=e m
 let f:=([]:List Int)
 let c9:=fun(m:List (List Int)) (s:Nat)=>m.getD s f
 let J:=fun(m:List (List Int)) (s:Nat)=>(c9 m s).length
 let y:=fun(m:List (List Int)) (s x1:Nat)=>(c9 m s).getD x1 0
 let d1:=fun(m:List (List Int))=> ∀(i:Nat),i<e m->(sm (J m i)/\ ∀(i_1:Nat),i_1<J m i->pW (y m i i_1))/\True
 let o:=fun(m:List (List Int))=>(↑(e m):Int)
 let Q:=fun(m:List (List Int))=>o m=o m
 let K:=sm (0:Int)
 let f2:=ab 67 True
 let z:=([]:List ar)
 let f3:=ar.s SV.aq::z
 let f4:=SV.int IntKind.i64 0
 let d2:=ar.s SV.ff::z++(f3++z)++(ar.s f4::z++z)
 let f5:=List.map ar.shape (f3++(d2++(d2++z)))
 let p:=f5=f5
 let A:=ab 3 (K/\ab 2 (K/\True))
 let d3:=fm.n
 let d4:=d3=d3
 let d5:=fun(m:Int) (s:List (List Int))=>decide (m<o s)=true
 let d6:=fun(m:Int) (s:List (List Int))=>0<=m/\m<o s
 let R:=fun(m:List (List Int)) (s:Int)=>m.getD s.toNat f
 let g:=aj
 let d7:=fun(m:List (List Int)) (s:Int)=>ae (eR (R m s))
 let d8:=fun(m:List (List Int)) (s:Int)=>(d7 m s).length
 let d9:=fun(m:List (List Int)) (s:Int) (x1:Nat)=>g.enc ((d7 m s).getD x1 0)
 let f6:=fun(m:List (List Int)) (s:Int)=> ∀(i:Nat),i<d8 m s->k/\g.ak (d9 m s i)
 let u:=fun(m:List (List Int)) (s:Int)=>eR (d7 m s)
 let T:=fun(m:List (List Int))=>(aJ m).fst.fst
 let e0:=fun(m:List (List Int))=>(T m).length
 let f7:=fun(m:List (List Int))=>(aJ m).fst.snd
 let L:=fun(m:List (List Int))=>(f7 m).fst
 let e1:=fun(m:List (List Int))=>decide ((L m).fst<0)
 let e2:=fun(m:List (List Int))=>(dz (L m).fst).length
 let f8:=fun(m:List (List Int))=>0=(L m).snd
 let M:=fun(m:List (List Int))=>(f7 m).snd
 let e3:=fun(m:List (List Int))=>decide ((M m).fst<0)
 let e4:=fun(m:List (List Int))=>(dz (M m).fst).length
 let f9:=fun(m:List (List Int))=>0=(M m).snd/\True
 let g0:=fun(m:List (List Int))=>ab 3 (((e0 m=0/\e1 m=false/\e2 m=0/\f8 m/\e3 m=false/\e4 m=0/\f9 m)/\(aJ m).snd=false/\True)/\True)
 let B:=fun(m:List (List Int))=>e m+1
 let d:=fun(m:Int)=>W (m+1)
 let C:=fun(m s:List (List Int)) (x1:Int)=>ah fm (B m) fun j=>af (decide (j<e m)) (fm.enc (c9 m j)) [SV.aI 2 (d8 s x1) (d9 s x1)]
 let g1:=fun(m:List (List Int)) (s:Int)=>decide (gj (u m s)>0)
 let e5:=fun(m:List (List Int)) (s:Int)=>(o m-d s).toNat<(o m-s).toNat
 let g2:=fun(m s:List (List Int)) (x1:Int)=>t/\B m=(C m s x1).length
 let e6:=fun(m:List (List Int)) (s:Int)=>ab 11 ((H m/\d1 m)/\Q m/\sm (d s)/\f2)
 let g3:=([]:List (Option (Nat×Nat)))
 let N:=g3=g3
 let g4:=fun(m:Nat) (s x1:List (List Int)) (y1:Int)=>if decide (m<e s)=true then J s m else d8 x1 y1
 let g5:=fun(m s:List (List Int)) (x1:Int)=>p/\A/\N/\((B m=(C m s x1).length/\1=d3/\ ∀(i:Nat),i<B m->(g4 i m s x1=((C m s x1).getD i f).length
  /\ ∀(i_1:Nat),i_1<g4 i m s x1->bK (if decide (i<e m)=true then g.enc (y m i i_1)else d9 s x1 i_1) (g.enc (((C m s x1).getD i f).getD i_1 0)))/\True)
  /\True)/\True
 let g6:=fun(m:List (List Int))=>e m=(C5 m).length
 let e7:=fun(m:List (List Int)) (s x1:Nat)=>((C5 m).getD s f).getD x1 0
 let D:=cR
 let c0:=fun(m:Nat)=>(0::1::f).getD m 0
 let g7:=fun(m:List (List Int)) (s:Nat)=>decide ((T m).getD s 0<0)
 let g8:=fun(m:List (List Int)) (s:Nat)=>(dz ((T m).getD s 0)).length
 let g9:=fun(m:List (List Int)) (s x1:Nat)=>(dz ((T m).getD s 0)).getD x1 0
 let h0:=fun(m:List (List Int)) (s:Nat)=>(dz (L m).fst).getD s 0
 let h1:=fun(m:List (List Int)) (s:Nat)=>(dz (M m).fst).getD s 0
 let h2:=fun(m:List (List Int))=>(aJ m).snd=true/\True
 let E:=fun(m:List (List Int))=>t/\H m
 let F:=fun(m:List (List Int))=>aC ((RE m).getD 0 f)
 let e8:=fun(m:List (List Int))=>(F m).length
 let e9:=fun(m:List (List Int)) (s:Nat)=>((F m).getD s d0).fst
 let h3:=fun(m:List (List Int)) (s:Nat)=>((F m).getD s d0).snd
 let c1:=fun(m:List (List Int)) (s:Nat)=>(h3 m s).fst
 let h4:=fun(m:List (List Int)) (s:Nat)=>(dz (c1 m s).fst).length
 let c2:=fun(m:List (List Int)) (s:Nat)=>(h3 m s).snd
 let h5:=fun(m:List (List Int)) (s:Nat)=>(dz (c2 m s).fst).length
 let q:=fun(m:List (List Int))=>sm (e8 m)/\ ∀(i:Nat),i<e8 m->(sm (e9 m i).length/\ ∀(i_1:Nat),i_1<(e9 m i).length->pW ((e9 m i).getD i_1 0))
  /\sm (decide ((c1 m i).fst<0))/\(sm (h4 m i)/\ ∀(i_1:Nat),i_1<h4 m i->sm ((dz (c1 m i).fst).getD i_1 0)/\True)/\sm (c1 m i).snd/\sm (decide ((c2 m i).fst
  <0))/\(sm (h5 m i)/\ ∀(i_1:Nat),i_1<h5 m i->sm ((dz (c2 m i).fst).getD i_1 0)/\True)/\sm (c2 m i).snd/\True
 let r:=fun(m:List (List Int))=>(↑(e8 m):Int)
 let c3:=fun(m:List (List Int))=>r m=r m
 let h6:=ab 34 True
 let f0:=fun(m:List (List Int))=>(H m/\d4/\d1 m)/\True
 let h7:=fun(m:List (List Int))=>p/\A/\N/\f0 m/\True
 let h8:=fun(m:List (List Int)) (s:Int)=>((F m).getD s.toNat d0).snd
 let h:=fun(m:List (List Int)) (s:Int)=>(h8 m s).snd
 let h9:=fun(m:List (List Int)) (s:Int)=>D.ak (yc (h m s))
 let v:=fun(m:List (List Int)) (s:Int)=>((F m).getD (d s).toNat d0).snd.fst
 let j0:=fun(m:List (List Int))=>aC ((bq m).getD 0 f)
 let G:=fun(m:List (List Int)) (s:Int)=>mZ (j0 m) s.toNat
 let j1:=ab 11 True
 let j2:=fun(m:List (List Int)) (s:Int)=>ab 4 (E m/\ab 5 (q m/\ab 39 (q m/\c3 m/\s=s/\ab 20 (E m/\Q m/\K/\j1))))
 let j3:=fun(m:List (List Int)) (s:Int)=>((F m).getD s.toNat d0).fst
 let c4:=fun(m:List (List Int)) (s:Int)=>(j3 m s).length
 let O:=fun(m:List (List Int)) (s:Int) (x1:Nat)=>(j3 m s).getD x1 0
 let P:=fun(m:List (List Int)) (s:Int)=>(h8 m s).fst
 let j4:=fun(m:List (List Int)) (s:Int)=>decide ((P m s).fst<0)
 let c5:=fun(m:List (List Int)) (s:Int)=>(dz (P m s).fst).length
 let j5:=fun(m:List (List Int)) (s:Int) (x1:Nat)=>(dz (P m s).fst).getD x1 0
 let j6:=fun(m:List (List Int)) (s:Int)=>decide ((h m s).fst<0)
 let c6:=fun(m:List (List Int)) (s:Int)=>(dz (h m s).fst).length
 let j7:=fun(m:List (List Int)) (s:Int) (x1:Nat)=>(dz (h m s).fst).getD x1 0
 let j8:=fun(m:List (List Int)) (s:Int)=>(sm (c4 m s)/\ ∀(i:Nat),i<c4 m s->pW (O m s i))/\sm (j4 m s)/\(sm (c5 m s)/\ ∀(i:Nat),i<c5 m s->
  sm (j5 m s i)/\True)/\sm (P m s).snd/\sm (j6 m s)/\(sm (c6 m s)/\ ∀(i:Nat),i<c6 m s->sm (j7 m s i)/\True)/\sm (h m s).snd/\True
 let j9:=List.map ar.shape d2
 let c7:=j9=j9
 let k0:=fun(m:List (List Int)) (s:Int)=>(dz (v m s).fst).length
 let w:=fun(m:List (List Int)) (s:Int)=>bb (yy (h m s)) (yy (v m s))
 let k1:=fun(m:List (List Int)) (s:Int)=>(dz (w m s).fst).length
 let k2:=fun(m:List (List Int)) (s:Int)=>p/\A/\N/\f0 m/\p/\j8 m s/\c7/\(sm (decide ((v m s).fst<0))/\(sm (k0 m s)/\ ∀(i:Nat),i<k0 m s->sm
  ((dz (v m s).fst).getD i 0)/\True)/\sm (v m s).snd/\True)/\c7/\(sm (decide ((w m s).fst<0))/\(sm (k1 m s)/\ ∀(i:Nat),i<k1 m s->sm ((dz (w m s).fst).getD
  i 0)/\True)/\sm (w m s).snd/\True)/\True
 let f1:=fun(m:List (List Int)) (s:Int)=>m.getD (0+s.toNat) f
 let k3:=fun(m:List (List Int)) (s:Int)=> ∀(i:Nat),i<(f1 m s).length->k/\g.ak (g.enc ((f1 m s).getD i 0))
 let c8:=fun(m:List (List Int)) (s:Int)=>eR (f1 m s)
 let k4:=fun(m:List (List Int)) (s x1:Int)=>decide (aW (cY (c8 m s) (yy (w m x1)))<=0)
 let k5:=fun(m:List (List Int))=>(↑(j0 m).length:Int)
 let k6:=fun(m s:List (List Int)) (x1:Int)=>True/\eA m (d x1)/\(k5 m-d x1).toNat<(k5 m-x1).toNat/\ab 4 (E s/\ab 5 (q s/\ab 39 (q s/\c3
  s/\sm (d x1)/\h6)))/\h7 s
 let k7:=fun(m:List (List Int))=>(↑(bq m).length:Int)
 let k8:=fun(m:List (List Int)) (s:Int)=>(k7 m-d s).toNat<(k7 m-s).toNat
 let k9:=fun(m:List (List Int)) (s x1:Int)=>ab 4 (E m/\ab 5 (q m/\ab 39 (q m/\c3 m/\s=s/\ab 20 (E m/\Q m/\sm (d x1)/\j1))))
 let o0:=fun(m s:Int) (x1 y1:List (List Int))=>decide (m<o x1)=false->ab 3 ((((c4 x1 s=e0 y1/\ ∀(i:Nat),i<c4 x1 s->decide (O x1 s i<0)=
  g7 y1 i/\((dz (O x1 s i)).length=g8 y1 i/\ ∀(i_1:Nat),i_1<(dz (O x1 s i)).length->(dz (O x1 s i)).getD i_1 0=g9 y1 i i_1/\True)/\True)/\j4 x1 s=
  e1 y1/\(c5 x1 s=e2 y1/\ ∀(i:Nat),i<c5 x1 s->j5 x1 s i=h0 y1 i/\True)/\(P x1 s).snd=(L y1).snd/\j6 x1 s=e3 y1/\(c6 x1 s=e4 y1/\ ∀(i:Nat),
  i<c6 x1 s->j7 x1 s i=h1 y1 i/\True)/\(h x1 s).snd=(M y1).snd/\True)/\h2 y1)/\True)
 let x:=fun(m:List (List Int)) (s:Int)=>bb (yy (h m s)) (yy y1)
 let o1:=fun(m:List (List Int)) (s:Int)=>(dz (x m s).fst).length
 let o2:=fun(m:List (List Int)) (s:Int)=>p/\A/\N/\f0 m/\p/\j8 m s/\c7/\(sm (decide ((1:Int)<(0:Int)))/\(sm (1:Nat)/\ ∀(i:Nat),i<(1
  :Nat)->sm ((dz (1:Int)).getD i (0:Int))/\True)/\(0:Int)=(0:Int)/\True)/\c7/\(sm (decide ((x m s).fst<(0:Int)))/\(sm (o1 m s)/\ ∀(i:Nat),
  i<o1 m s->sm ((dz (x m s).fst).getD i (0:Int))/\True)/\sm (x m s).snd/\True)/\True
 let o3:=fun(m:List (List Int)) (s x1:Int)=>decide (aW (cY (c8 m s) (yy (x m x1)))<=0)
 ab 4 ((cj c 0 [] true/\ab 4 ((t/\t)/\k/\ab 11 ((H c/\d1 c)/\Q c/\K/\f2))/\p/\A/\t/\d4/\True)/\ ∀(n:Int) (l:List (List Int)) (n_1:Bool),
  cj c n l n_1->True/\(d5 n c->d6 n c/\ab 2 (((∀(i:Nat),i<(R c n).length->k/\g.ak (g.enc ((R c n).getD i 0)))/\cr (eR (R c n)))/\ab 2 ((f6
  c n/\eO (u c n))/\ab 2 ((eY (u c n)=true->g0 c)/\(eY (u c n)=false->True/\((!eF (u c n))=true->1<=1/\(∀(j:Nat),j<1->k)/\(t/\H
  l/\B l<=140737488355328/\B l*24<=140737488355328)/\True/\(n_1=true->True/\(f6 c n/\cr (u c n))/\ab 2 (cj c (d n) (C l c n) (g1 c n)/\e5 c
  n/\ab 4 (g2 l c n/\sm (g1 c n)/\e6 c n)/\g5 l c n))/\(n_1=false->ab 2 (cj c (d n) (C l c n) false/\e5 c n/\ab 4 (g2 l c n/\false=false/\e6
  c n)/\g5 l c n)))/\((!eF (u c n))=false->True/\cj c (d n) (C5 l) n_1/\e5 c n/\ab 4 ((t/\g6 l)/\n_1=n_1/\e6 c n)/\p/\A/\N/\((g6 l/\d4/\
  ∀(i:Nat),i<e l->(J l i=((C5 l).getD i f).length/\ ∀(i_1:Nat),i_1<J l i->decide (y l i i_1<0)=decide (e7 l i i_1<0)/\((dz (y l i i_1)).length
  =(dz (e7 l i i_1)).length/\ ∀(i_2:Nat),i_2<(dz (y l i i_1)).length->(dz (y l i i_1)).getD i_2 0=(dz (e7 l i i_1)).getD i_2 0/\True)/\True)/\True)/\
  True)/\True))))))/\(decide (n<o c)=false->True/\(n_1=true->True/\(D.ak [SV.ff,SV.aq,f4]/\vT (0,0))/\ab 3 ((((2=e0 c/\ ∀(i:Nat),i
  <2->decide (c0 i<0)=g7 c i/\((dz (c0 i)).length=g8 c i/\ ∀(i_1:Nat),i_1<(dz (c0 i)).length->(dz (c0 i)).getD i_1 0=g9 c i i_1/\True)/\True)/\
  false=e1 c/\(0=e2 c/\ ∀(i:Nat),i<0->f.getD i 0=h0 c i/\True)/\f8 c/\false=e3 c/\(0=e4 c/\ ∀(i:Nat),i<0->f.getD i 0=h1 c i/\True)
  /\f9 c)/\h2 c)/\True))/\(n_1=false->(0+e l<=e l/\ ∀(i:Nat),i<e l->k)/\((∀(i:Nat),i<e l->k/\ ∀(i_1:Nat),i_1<(l.getD (0+i) f).length
  ->k/\g.ak (g.enc ((l.getD (0+i) f).getD i_1 0)))/\qJ (RE l))/\ab 2 ((eA c 0/\ab 4 (E l/\ab 5 (q l/\ab 39 (q l/\c3 l/\K/\h6)))/\h7 l)
  /\ ∀(n:Int),eA c n->True/\(decide (n<r l)=true->(0<=n/\n<r l)/\True/\(True/\()=())/\ab 2 ((decide (d n<r l)=true->(0<=d n/\d n<
  r l)/\ab 3 (((h9 l n/\D.ak (yc (v l n)))/\dp (yy (h l n))/\dp (yy (v l n)))/\ab 2 ((cW (bq c) (G c n) 0/\j2 l n/\k2 l n)/\ ∀(n_2:Int),cW
  (bq c) (G c n) n_2->True/\(d5 n_2 l->d6 n_2 l/\0+n_2.toNat<e l/\ab 3 (((k3 l n_2/\D.ak (yc (w l n)))/\bM (c8 l n_2) (yy (w l n)))/\True/\(k4
  l n_2 n=true->k6 c l n)/\(k4 l n_2 n=false->True/\cW (bq c) (G c n) (d n_2)/\k8 c n_2/\k9 l n n_2/\k2 l n)))/\o0 n_2 n l c)))/\(decide (d n<
  r l)=false->ab 2 (((h9 l n/\D.ak (yc y1))/\dp (yy (h l n))/\dp (yy y1))/\ab 2 ((cW (bq c) (G c n) 0/\j2 l n/\o2 l n)/\ ∀(n_2:Int),cW
  (bq c) (G c n) n_2->True/\(d5 n_2 l->d6 n_2 l/\0+n_2.toNat<e l/\ab 3 (((k3 l n_2/\D.ak (yc (x l n)))/\bM (c8 l n_2) (yy (x l n)))/\True/\(o3
  l n_2 n=true->k6 c l n)/\(o3 l n_2 n=false->True/\cW (bq c) (G c n) (d n_2)/\k8 c n_2/\k9 l n n_2/\o2 l n)))/\o0 n_2 n l c)))))/\(decide (n<
  r l)=false->g0 c))))))=TC c:=by kernel_rfl
@[simp] theorem rwQ0_eq (l:List (List Int)):RE l=l:=by
 unfold RE;simp only [Jg];exact iJ (C:=fm) rfl
theorem YI :dz 1=[1]:=by
 have e0:dz 1=lm 1:=by unfold dz;rfl
 rw [e0,oM (by omega),show 1/4294967296=0 from rfl,ur];rfl
theorem zv_1 :zv false (ah (aF IntKind.u32) 1 fun i=>[SV.int IntKind.u32 (([1]:List Int).getD i 0)])=1:=by
 rw [show(ah (aF IntKind.u32) 1 fun i=>[SV.int IntKind.u32 (([1]:List Int).getD i 0)])=dz 1 from(iJ (C:=aF IntKind.u32) (l:=[1]) rfl).trans YI.symm,PH];rfl
theorem VQ :aj.ak [SV.bool false,SV.aI 1 1 fun i=>[SV.int IntKind.u32 (([1]:List Int).getD i 0)]]:=by
 have h:=aj.kW 1;have e:aj.enc 1=[SV.bool false,SV.aI 1 1 fun i=>[SV.int IntKind.u32 (([1]:List Int).getD i 0)]]:=by
  have e1:aj.enc 1=[SV.bool (decide ((1:Int)<0)),SV.aI 1 (dz 1).length fun i=>[SV.int IntKind.u32 ((dz 1).getD i 0)]]:=rfl;rw [e1,YI];rfl
 rw [<-e];exact h
theorem oe {y:Int×Int} (h:dp y):fit y.1/\di y.2:=by
 unfold dp at h;obtain⟨h1,h2,h3⟩:=h;exact⟨bz h1 (by omega),by unfold di;omega⟩
theorem SH :fit 1:=by
 have:=gT (a:=1) (b:=10000) (by omega);have h2:pw 1=4294967296:=by rw [bD,fh];rfl
 exact(oe (y:=(1,0)) (by unfold dp;refine⟨?_,by omega,by omega⟩;show(1:Int)<_;omega)).1
theorem CY (y:Int×Int):JQ y=([-(eV y.1 y.2).1,2^(eV y.1 y.2).2.toNat],eV y.1 y.2,eV y.1 y.2):=by unfold JQ;rfl
theorem k352 :aH Tryz.prog UC:=av k353 hm Tryz.func352 (by kernel_rfl) (by kernel_rfl) sY1.ok (by kernel_rfl) (fun _=>[]) fun a hp=>by
 have h:SW a:=by
  rw [<-Mv];(conv=>zeta);simp only [aA];generalize a=y at*
  try dsimp only at hp
  simp [-List.getD_eq_getElem?_getD];unfold vT at hp;obtain⟨h1,h2⟩:=hp;have⟨h3,h4⟩:=oe h2;rw [zv_1,K8,CY];generalize eV y.1 y.2=r at*
  refine⟨h1,h3,by unfold fN;omega,⟨VQ,SH,h4⟩,⟨rfl,fun i hi=> ?_⟩,J9,⟨rfl,fun _ _=>rfl⟩,rfl,J9,⟨rfl,fun _ _=>rfl⟩,rfl⟩
  by_cases hi0:i=0
  . subst hi0;refine⟨?_,rfl,fun j _=>⟨rfl,trivial⟩⟩;show decide (0<r.1)=decide (-r.1<0)
    exact decide_eq_decide.2 (by omega)
  . have hi1:i=1:=by omega
    subst hi1;exact⟨rfl,rfl,fun j _=>⟨rfl,trivial⟩⟩
 exact h
theorem k258r :aH Tryz.prog Pc:=av k352 hm Tryz.func258 (by kernel_rfl) (by kernel_rfl) sP.ok (by kernel_rfl) (fun a=>T3 a) fun a hp=>by
 have h:ON a:=by
  rw [<-KR];(conv=>zeta);simp only [aA];generalize a=p at*
  try dsimp only at hp
  have hl:=jC hp;have ht:=cX p;simp [-List.getD_eq_getElem?_getD,hp,cP hp];rw [aG (n:=(tl p:Int)) (by omega) (by omega)];refine⟨fun e=>Kr (by rw [bn];omega),fun e=>⟨by omega,⟨G5 p,by omega,fun i hi=>Bg _ i (by omega)⟩,fun n l hinv=>⟨fun hn=> ?_,fun hn=> ?_⟩⟩⟩
  . have hlen:=oy hinv;have hn0:0<=n:=by unfold eI at hinv;exact hinv.1
    rw [aG (n:=n+1) (by omega) (by omega),uK hlen.symm];have:=wE hinv (by omega)
    and_intros<;>first|omega|assumption|exact jK (by simp) hlen.symm
  . have hlen:=oy hinv;have e:l=ae p:=by
     unfold eI at hinv;obtain⟨h1,h2,h3⟩:=hinv;rw [h3,show n.toNat=tl p by omega,dq];simp
    rw [e,bn];exact⟨by omega,by omega,fun i hi=>⟨J9,rfl,fun _ _=>rfl⟩⟩
 exact h
theorem G1 {c:List (List Int)} (h:fD c=true):aJ c=(d0,false):=by unfold aJ;rw [if_pos h]
theorem Gg {c:List (List Int)} (h:fD c=false) (h2:gI c=true):aJ c=(JQ (0,0),true):=by unfold aJ;rw [if_neg (by rw [h];decide),if_pos h2]
theorem BC {c:List (List Int)} (h:fD c=false) (h2:gI c=false):aJ c=jE (bq c) (aC ((bq c).getD 0 [])) (aC ((bq c).getD 0 [])).length 0:=by
 unfold aJ;rw [if_neg (by rw [h];decide),if_neg (by rw [h2];decide)]
theorem ta {p:List Int} (h:eO p):bj 100 p/\p.length<=3:=by unfold eO at h;exact h
theorem qH {p:List Int} (h:eO p):eO (ae p):=by
 obtain⟨h1,h2⟩:=ta h;unfold eO;exact⟨fZ h1,by rw [bn];have:=cX p;omega⟩
theorem tD {p:List Int} (h:eO p):cr p:=bu (ta h).1 (by omega)
theorem Ss {c:List (List Int)} {i:Nat} (h:i<c.length):c.take (i+1)=c.take i++[c.getD i []]:=by
 rw [X4,J0,J4 h];rfl
theorem Lq {c:List (List Int)} {i:Nat} (h:i<c.length):c.getD i []∈c:=by
 rw [J0,J4 h];exact Ku _
theorem xr (c:List (List Int)) (p:List Int):fD (c++[p])=(fD c||eY (ae p)):=by unfold fD;simp
theorem yx {c:List (List Int)} {p:List Int} (h:p∈c) (hp:eY (ae p)=true):fD c=true:=by
 unfold fD;exact List.any_eq_true.2 ⟨ae p,Kh.2 ⟨p,h,rfl⟩,hp⟩
theorem yR (c:List (List Int)) (p:List Int):bq (c++[p])=bq c++(if eF (ae p)then []else [ae p]):=by
 unfold bq;cases h:eF (ae p)<;>simp [Y7,Q3,h]
theorem FJ (c:List (List Int)):(bq c).length<=c.length:=by
 unfold bq;exact Jn (List.length_filter_le _ _) (by rw [Qj];omega)
theorem zY (c:List (List Int)) (p:List Int):gI (c++[p])=(gI c&&(eF (ae p)||decide (0<gj (ae p)))):=by
 unfold gI;rw [yR];cases h:eF (ae p)<;>simp
theorem HE (o:List (List Int)) (p:List Int) (y:Int×Int):jS (o++[p]) y=(jS o y&&decide (0<aW (cY p y))):=by unfold jS;simp
theorem GO {o:List (List Int)} {p:List Int} {y:Int×Int} (h:p∈o) (hp:aW (cY p y)<=0):jS o y=false:=by
 unfold jS;rw [List.all_eq_false];exact⟨p,h,by simp;omega⟩
theorem nO (o:List (List Int)) (ts:List ao) (i:Nat):jE o ts 0 i=(d0,false):=by kernel_rfl
theorem oi (o:List (List Int)) (ts:List ao) (k i:Nat):jE o ts (k+1) i=if jS o (mZ ts i)then(ts.getD i d0,true)else jE o ts k (i+1):=by kernel_rfl
theorem tF (ts:List ao) (i:Nat):mZ ts i=bb (ts.getD i d0).2.2 (if i+1<ts.length then(ts.getD (i+1) d0).2.1 else y1):=by unfold mZ;rfl
theorem qE (a:ao):(a.fst.length=a.fst.length/\ ∀(i:Nat),i<a.fst.length->(a.fst.getD i (0:Int)<(0:Int)↔a.fst.getD i (0:Int)<(0:Int))/\(dz (a.fst.getD i (0:Int))).length=(dz (a.fst.getD i (0:Int))).length/\
 ∀(i_1:Nat),i_1<(dz (a.fst.getD i (0:Int))).length->(dz (a.fst.getD i (0:Int))).getD i_1 (0:Int)=(dz (a.fst.getD i (0:Int))).getD i_1 (0:Int))/\
 (a.snd.fst.fst<(0:Int)↔a.snd.fst.fst<(0:Int))/\((dz a.snd.fst.fst).length=(dz a.snd.fst.fst).length/\ ∀(i:Nat),i<(dz a.snd.fst.fst).length->(dz a.snd.fst.fst).getD i (0:Int)=(dz a.snd.fst.fst).getD i (0:Int))/\
 a.snd.fst.snd=a.snd.fst.snd/\(a.snd.snd.fst<(0:Int)↔a.snd.snd.fst<(0:Int))/\((dz a.snd.snd.fst).length=(dz a.snd.snd.fst).length/\ ∀(i:Nat),i<(dz a.snd.snd.fst).length->(dz a.snd.snd.fst).getD i (0:Int)=(dz a.snd.snd.fst).getD i (0:Int))/\
 a.snd.snd.snd=a.snd.snd.snd:=⟨⟨rfl,fun _ _=>⟨J9,rfl,fun _ _=>rfl⟩⟩,J9,⟨rfl,fun _ _=>rfl⟩,rfl,J9,⟨rfl,fun _ _=>rfl⟩,rfl⟩
theorem qT :(d0,false).1.1=([]:List Int)/\(0:Int)<=(d0,false).1.2.1.1/\dz (d0,false).1.2.1.1=[]/\(0:Int)=(d0,false).1.2.1.2/\(0:Int)<=(d0,false).1.2.2.1/\dz (d0,false).1.2.2.1=[]/\(0:Int)=(d0,false).1.2.2.2:=
 ⟨rfl,Kx 0,gz,rfl,Kx 0,gz,rfl⟩
theorem Xw {l:List (List Int)} {p:List Int} {i:Nat} (hi:i<l.length+1):(if i<l.length then(l.getD i []).length else p.length)=((l++[p]).getD i []).length/\
 ∀(i_1:Nat),(i_1<if i<l.length then(l.getD i []).length else p.length)->bK (if i<l.length then aj.enc ((l.getD i []).getD i_1 (0:Int))else aj.enc (p.getD i_1 (0:Int))) (aj.enc (((l++[p]).getD i []).getD i_1 (0:Int))):=by
 rw [gD hi]
 by_cases h:i<l.length
 . simp only [if_pos h];exact⟨trivial,fun j _=>GP _⟩
 . simp only [if_neg h];exact⟨trivial,fun j _=>GP _⟩
theorem N7 {c l:List (List Int)} {n_2:Int} {y:Int×Int} (hl:l=bq c) (hc:c.length<=10) (hy:y=mZ (aC ((bq c).getD 0 [])) n_2.toNat) (hi:eA c n_2) (hn:n_2<(aC ((bq c).getD 0 [])).length) (h2:(aC ((bq c).getD 0 [])).length<=2) (hp: ∀p∈bq c,bM p (mZ (aC ((bq c).getD 0 [])) n_2.toNat)):
 cW (bq c) (mZ (aC ((bq c).getD (0:Nat) [])) n_2.toNat) (0:Int)/\ ∀(n_3:Int),cW (bq c) (mZ (aC ((bq c).getD (0:Nat) [])) n_2.toNat) n_3->(n_3< ↑l.length->((0:Int)<=n_3/\n_3< ↑l.length)/\
 n_3.toNat<l.length/\bM (l.getD n_3.toNat []) y/\(aW (cY (l.getD n_3.toNat []) y)<=(0:Int)->eA c (W (n_2+(1:Int)))/\max (↑(aC ((bq c).getD (0:Nat) [])).length-W (n_2+(1:Int))) (0:Int)<
 ↑(aC ((bq c).getD (0:Nat) [])).length-n_2)/\((0:Int)<aW (cY (l.getD n_3.toNat []) y)->cW (bq c) (mZ (aC ((bq c).getD (0:Nat) [])) n_2.toNat) (W (n_3+(1:Int)))/\max (↑(bq c).length-W (n_3
 +(1:Int))) (0:Int)< ↑(bq c).length-n_3))/\(↑l.length<=n_3->((((aC (l.getD (0:Nat) [])).getD n_2.toNat d0).fst.length=(aJ c).fst.fst.length/\ ∀(i:Nat),i<((aC (l.getD (0:Nat) [])).getD n_2.toNat
 d0).fst.length->(((aC (l.getD (0:Nat) [])).getD n_2.toNat d0).fst.getD i (0:Int)<(0:Int)↔(aJ c).fst.fst.getD i (0:Int)<(0:Int))/\(dz (((aC (l.getD (0:Nat) [])).getD n_2.toNat d0).fst.getD i (0:
 Int))).length=(dz ((aJ c).fst.fst.getD i (0:Int))).length/\ ∀(i_1:Nat),i_1<(dz (((aC (l.getD (0:Nat) [])).getD n_2.toNat d0).fst.getD i (0:Int))).length->(dz (((aC (l.getD (0:Nat) [])).getD n_2.toNat
 d0).fst.getD i (0:Int))).getD i_1 (0:Int)=(dz ((aJ c).fst.fst.getD i (0:Int))).getD i_1 (0:Int))/\(((aC (l.getD (0:Nat) [])).getD n_2.toNat d0).snd.fst.fst<(0:Int)↔(aJ c).fst.snd.fst.fst<(0:Int))/\
 ((dz ((aC (l.getD (0:Nat) [])).getD n_2.toNat d0).snd.fst.fst).length=(dz (aJ c).fst.snd.fst.fst).length/\ ∀(i:Nat),i<(dz ((aC (l.getD (0:Nat) [])).getD n_2.toNat d0).snd.fst.fst).length->(dz ((aC (l.getD
 (0:Nat) [])).getD n_2.toNat d0).snd.fst.fst).getD i (0:Int)=(dz (aJ c).fst.snd.fst.fst).getD i (0:Int))/\((aC (l.getD (0:Nat) [])).getD n_2.toNat d0).snd.fst.snd=(aJ c).fst.snd.fst.snd/\(((aC (l.getD (0:
 Nat) [])).getD n_2.toNat d0).snd.snd.fst<(0:Int)↔(aJ c).fst.snd.snd.fst<(0:Int))/\((dz ((aC (l.getD (0:Nat) [])).getD n_2.toNat d0).snd.snd.fst).length=(dz (aJ c).fst.snd.snd.fst).length/\ ∀(i:Nat),i<
 (dz ((aC (l.getD (0:Nat) [])).getD n_2.toNat d0).snd.snd.fst).length->(dz ((aC (l.getD (0:Nat) [])).getD n_2.toNat d0).snd.snd.fst).getD i (0:Int)=(dz (aJ c).fst.snd.snd.fst).getD i (0:Int))/\((aC (l.getD
 (0:Nat) [])).getD n_2.toNat d0).snd.snd.snd=(aJ c).fst.snd.snd.snd)/\(aJ c).snd=true):=by
 subst hl;have hol:=FJ c;unfold eA at hi;obtain⟨i1,i2,i3,i4,i5⟩:=hi;rw [show(aC ((bq c).getD 0 [])).length-n_2.toNat=((aC ((bq c).getD 0 [])).length-n_2.toNat-1)+1 by omega,oi,<-hy]at i5;rw [<-hy]at hp⊢;refine⟨by unfold cW;exact⟨by omega,by omega,by unfold jS;rfl⟩,fun j hj=> ?_⟩;unfold cW at hj;obtain⟨j1,j2,j3⟩:=hj;refine⟨fun h=>⟨⟨j1,h⟩,by omega,hp _ (Lq (by omega)),fun hs=> ?_,fun hs=> ?_⟩,fun h=> ?_⟩
 . rw [GO (Lq (c:=bq c) (i:=j.toNat) (by omega)) hs,if_neg (by decide)]at i5;rw [aG (n:=n_2+1) (by omega) (by omega)];refine⟨?_,by omega⟩;unfold eA;refine⟨by omega,by omega,i3,i4,?_⟩;rw [i5,show(n_2+1).toNat=n_2.toNat+1 by omega,Nat.sub_sub]
 . rw [aG (n:=j+1) (by omega) (by omega)];refine⟨?_,by omega⟩;unfold cW;refine⟨by omega,by omega,?_⟩;rw [show(j+1).toNat=j.toNat+1 by omega,Ss (by omega),HE,j3,decide_eq_true hs];rfl
 . rw [Jz (by omega)]at j3;rw [j3,if_pos rfl]at i5;rw [i5];exact⟨qE _,rfl⟩
theorem g285 {c:List (List Int)} (hp:lP c):
 let k:=fun(m:List (List Int))=>m.length
 let h:=fun(m:List (List Int))=>(↑(k m):Int)
 let v:=fun(m:Int) (x1:List (List Int))=>0<=m/\m<h x1
 let g:=([]:List Int)
 let j:=fun(m:List (List Int)) (x1:Int)=>m.getD x1.toNat g
 let d:=fun(m:List (List Int)) (x1:Int)=>ae (j m x1)
 let o:=fun(m:List (List Int))=>(aJ m).fst.fst
 let E:=fun(m:List (List Int))=>(aJ m).fst.snd
 let w:=fun(m:List (List Int))=>(E m).fst
 let p:=fun(m:List (List Int))=>(w m).fst
 let B:=fun(m:List (List Int))=>(E m).snd
 let q:=fun(m:List (List Int))=>(B m).fst
 let F:=fun(m:List (List Int))=>0=(B m).snd
 let C:=fun(m:List (List Int))=>(o m=g/\0<=p m/\dz (p m)=g/\0=(w m).snd/\0<=q m/\dz (q m)=g/\F m)/\(aJ m).snd=false
 let G:=fun(m:List (List Int))=>k m<=140737488355327/\(k m+1)*24<=140737488355328
 let e:=fun(m:Int)=>W (m+1)
 let x:=fun(m x1:List (List Int)) (y1:Int)=>m++[d x1 y1]
 let D:=fun(m:List (List Int)) (x1:Int)=>max (h m-e x1) 0<h m-x1
 let H:=fun(m:Nat) (x1 y1:List (List Int)) (u1:Int)=>if m<k x1 then(x1.getD m g).length else(d y1 u1).length
 let J:=fun(m x1:List (List Int)) (y1:Int)=>D m y1/\1=fm.n/\ ∀(i:Nat),i<k x1+1->H i x1 m y1=((x x1 m y1).getD i g).length/\ ∀(i_1:Nat),
  i_1<H i x1 m y1->bK (if i<k x1 then aj.enc ((x1.getD i g).getD i_1 0)else aj.enc ((d m y1).getD i_1 0)) (aj.enc (((x x1 m y1).getD i g).getD i_1 0))
 let y:=fun(m:List (List Int))=>aC (m.getD 0 g)
 let r:=fun(m:List (List Int))=>(↑(y m).length:Int)
 let K:=fun(m:List (List Int)) (x1:Int)=>((y m).getD x1.toNat d0).snd
 let f:=fun(m:List (List Int)) (x1:Int)=>(K m x1).snd
 let z:=fun(m:List (List Int)) (x1:Int)=>((y m).getD (e x1).toNat d0).snd.fst
 let L:=fun(m:List (List Int))=>aC ((bq m).getD 0 g)
 let t:=fun(m:List (List Int)) (x1:Int)=>mZ (L m) x1.toNat
 let M:=fun(m:List (List Int))=>(↑(L m).length:Int)
 let N:=fun(m:List (List Int)) (x1:Int)=>eA m (e x1)/\max (M m-e x1) 0<M m-x1
 let O:=fun(m:List (List Int))=>(↑(bq m).length:Int)
 let P:=fun(m:List (List Int)) (x1 y1:Int)=>cW (bq m) (t m x1) (e y1)/\max (O m-e y1) 0<O m-y1
 let s:=fun(m:List (List Int)) (x1:Int)=>((y m).getD x1.toNat d0).fst
 let Q:=fun(m:List (List Int)) (x1:Nat)=>(dz ((o m).getD x1 0)).length
 let R:=fun(m:List (List Int)) (x1 y1:Nat)=>(dz ((o m).getD x1 0)).getD y1 0
 let u:=fun(m:List (List Int)) (x1:Int)=>(K m x1).fst
 let T:=fun(m x1:List (List Int)) (y1 u1:Int)=>h m<=y1->(((s m u1).length=(o x1).length/\ ∀(i:Nat),i<(s m u1).length->((s m u1).getD i 0<0↔
  (o x1).getD i 0<0)/\(dz ((s m u1).getD i 0)).length=Q x1 i/\ ∀(i_1:Nat),i_1<(dz ((s m u1).getD i 0)).length->(dz ((s m u1).getD i 0)).getD i_1 0=R
  x1 i i_1)/\((u m u1).fst<0↔p x1<0)/\((dz (u m u1).fst).length=(dz (p x1)).length/\ ∀(i:Nat),i<(dz (u m u1).fst).length->(dz (u m u1).fst).getD i
  0=(dz (p x1)).getD i 0)/\(u m u1).snd=(w x1).snd/\((f m u1).fst<0↔q x1<0)/\((dz (f m u1).fst).length=(dz (q x1)).length/\ ∀(i:Nat),i<(dz (f
  m u1).fst).length->(dz (f m u1).fst).getD i 0=(dz (q x1)).getD i 0)/\(f m u1).snd=(B x1).snd)/\(aJ x1).snd=true
 let A:=fun(m:Nat)=>(0::1::g).getD m 0
 cj c 0 [] true/\ ∀(n:Int) (l:List (List Int)),(cj c n l false->(n<h c->v n c/\cr (j c n)/\eO (d c n)/\(eY (d c n)=true->C c)/\
  (eY (d c n)=false->(eF (d c n)=false->G l/\cj c (e n) (x l c n) false/\J c l n)/\(eF (d c n)=true->cj c (e n) l false/\D c n)))/\(h
  c<=n->qJ l/\eA c 0/\ ∀(n_2:Int),eA c n_2->(n_2<r l->(0<=n_2/\n_2<r l)/\(e n_2<r l->(0<=e n_2/\e n_2<r l)/\(dp (f l n_2)/\
  dp (z l n_2))/\cW (bq c) (t c n_2) 0/\ ∀(n_3:Int),cW (bq c) (t c n_2) n_3->(n_3<h l->v n_3 l/\n_3.toNat<k l/\bM (j l n_3) (bb (f
  l n_2) (z l n_2))/\(aW (cY (j l n_3) (bb (f l n_2) (z l n_2)))<=0->N c n_2)/\(0<aW (cY (j l n_3) (bb (f l n_2) (z l n_2)))->P c n_2 n_3))/\T l c
  n_3 n_2)/\(r l<=e n_2->(dp (f l n_2)/\dp y1)/\cW (bq c) (t c n_2) 0/\ ∀(n_3:Int),cW (bq c) (t c n_2) n_3->(n_3<h l->v n_3 l/\n_3.toNat
  <k l/\bM (j l n_3) (bb (f l n_2) y1)/\(aW (cY (j l n_3) (bb (f l n_2) y1))<=0->N c n_2)/\(0<aW (cY (j l n_3) (bb (f l n_2) y1))->P c n_2 n_3))
  /\T l c n_3 n_2))/\(r l<=n_2->C c)))/\(cj c n l true->(n<h c->v n c/\cr (j c n)/\eO (d c n)/\(eY (d c n)=true->C c)/\(eY (d c n)=
  false->(eF (d c n)=false->G l/\cr (d c n)/\cj c (e n) (x l c n) (decide (0<gj (d c n)))/\J c l n)/\(eF (d c n)=true->cj c (e n) l
  true/\D c n)))/\(h c<=n->vT (0,0)/\((2=(o c).length/\ ∀(i:Nat),i<2->(A i<0↔(o c).getD i 0<0)/\(dz (A i)).length=Q c i/\ ∀(i_1:Nat),
  i_1<(dz (A i)).length->(dz (A i)).getD i_1 0=R c i i_1)/\0<=p c/\0=(dz (p c)).length/\0=(w c).snd/\0<=q c/\0=(dz (q c)).length/\F c)/\(aJ c).snd
  =true)):=by
  conv=>zeta
  unfold lP at hp;obtain⟨hc,hq,hr⟩:=hp;have step: ∀(n:Int) (l:List (List Int)) (b:Bool),cj c n l b->n<c.length->eY (ae (c.getD n.toNat []))=false->
   cj c (W (n+1)) (l++(if eF (ae (c.getD n.toNat []))then []else [ae (c.getD n.toNat [])])) (b&&(eF (ae (c.getD n.toNat []))||decide (0<gj (ae (c.getD n.toNat [])))))/\max (↑c.length-W (n+(1:Int))) (0:Int)< ↑c.length-n:=fun n l b h hn hv=>by
   unfold cj at h;obtain⟨a1,a2,a3,a4,a5⟩:=h;rw [aG (n:=n+1) (by omega) (by omega)];refine⟨?_,by omega⟩;unfold cj;rw [show(n+1).toNat=n.toNat+1 by omega,Ss (by omega),xr,yR,zY,a3,hv,<-a4,<-a5];exact⟨by omega,by omega,rfl,rfl,rfl⟩
  have len: ∀(n:Int) (l:List (List Int)) (b:Bool),cj c n l b->l.length<=10/\0<=n:=fun n l b h=>by
   unfold cj at h;obtain⟨a1,a2,a3,a4,a5⟩:=h;have:=FJ (c.take n.toNat);rw [a4];rw [Kj]at this;omega
  have all: ∀(n:Int) (l:List (List Int)) (b:Bool),cj c n l b->c.length<=n->fD c=false/\l=bq c/\gI c=b:=fun n l b h hn=>by
   unfold cj at h;obtain⟨a1,a2,a3,a4,a5⟩:=h;rw [Jz (by omega)]at a3 a4 a5;exact⟨a3,a4,a5.symm⟩
  refine⟨by unfold cj;exact⟨by omega,by omega,by unfold fD;rfl,by unfold bq;rfl,by unfold gI bq;rfl⟩,fun n l=>⟨fun hinv=>⟨fun hn=> ?_,fun hn=> ?_⟩,fun hinv=>⟨fun hn=> ?_,fun hn=> ?_⟩⟩⟩
  . obtain⟨l1,n0⟩:=len n l _ hinv;have hm:=Lq (c:=c) (i:=n.toNat) (by omega);refine⟨⟨n0,hn⟩,tD (hq _ hm),qH (hq _ hm),fun hv=> ?_,fun hv=> ?_⟩
    . rw [G1 (yx hm hv)];exact⟨qT,rfl⟩
    . have hs:=step n l _ hinv hn hv;refine⟨fun ha=> ?_,fun ha=> ?_⟩
      . rw [ha]at hs;exact⟨⟨by omega,by omega⟩,hs.1,hs.2,rfl,fun i hi=>Xw hi⟩
      . rw [ha]at hs;simpa using hs
  . obtain⟨a1,a2,a3⟩:=all n l _ hinv hn;obtain⟨r1,r2,r3⟩:=hr a1 a3;have hb:=BC a1 a3;refine⟨by rw [a2];exact r1,by unfold eA;exact⟨by omega,by omega,a1,a3,hb⟩,fun m hm=>⟨fun hlt=> ?_,fun hge=> ?_⟩⟩
    . have hm':=hm;unfold eA at hm;obtain⟨m1,m2,m3,m4,m5⟩:=hm;rw [a2]at hlt;have eW:=aG (n:=m+1) (by omega) (by omega);have ey:=tF (aC ((bq c).getD 0 [])) m.toNat;refine⟨by rw [a2];exact⟨m1,hlt⟩,fun hw=> ?_,fun hw=> ?_⟩
      . rw [eW]at hw⊢;rw [a2]at hw;have e1:(m+1).toNat=m.toNat+1:=by omega
        rw [if_pos (by omega)]at ey;rw [e1,show aC (l.getD 0 [])=aC ((bq c).getD 0 []) by rw [a2]];have F:=N7 a2 hc ey.symm hm' hlt r2 (r3 m.toNat (by omega)).2.2;rw [eW,show aC (l.getD 0 [])=aC ((bq c).getD 0 []) by rw [a2]]at F;exact⟨⟨by omega,hw⟩,⟨(r3 m.toNat (by omega)).2.1,(r3 (m.toNat+1) (by omega)).1⟩,F⟩
      . rw [eW]at hw⊢;rw [a2]at hw;rw [if_neg (by omega)]at ey;rw [show aC (l.getD 0 [])=aC ((bq c).getD 0 []) by rw [a2]];have F:=N7 a2 hc ey.symm hm' hlt r2 (r3 m.toNat (by omega)).2.2;rw [eW,show aC (l.getD 0 [])=aC ((bq c).getD 0 []) by rw [a2]]at F;exact⟨⟨(r3 m.toNat (by omega)).2.1,Hq⟩,F⟩
    . unfold eA at hm;obtain⟨m1,m2,m3,m4,m5⟩:=hm;rw [a2]at hge;rw [show(aC ((bq c).getD 0 [])).length-m.toNat=0 by omega,nO]at m5;rw [m5];exact⟨qT,rfl⟩
  . obtain⟨l1,n0⟩:=len n l _ hinv;have hm:=Lq (c:=c) (i:=n.toNat) (by omega);refine⟨⟨n0,hn⟩,tD (hq _ hm),qH (hq _ hm),fun hv=> ?_,fun hv=> ?_⟩
    . rw [G1 (yx hm hv)];exact⟨qT,rfl⟩
    . have hs:=step n l _ hinv hn hv;refine⟨fun ha=> ?_,fun ha=> ?_⟩
      . rw [ha]at hs;exact⟨⟨by omega,by omega⟩,tD (qH (hq _ hm)),hs.1,hs.2,rfl,fun i hi=>Xw hi⟩
      . rw [ha]at hs;simpa using hs
  . obtain⟨a1,a2,a3⟩:=all n l _ hinv hn;rw [Gg a1 a3];have e0:JQ (0,0)=([0,1],(0,0),(0,0)):=by
     rw [CY];have:eV 0 0=(0,0):=by unfold eV;rw [if_pos rfl]
     rw [this];rfl
    rw [e0];refine⟨?_,⟨⟨rfl,fun i hi=>⟨J9,rfl,fun _ _=>rfl⟩⟩,Kx 0,by rw [show dz ((([0,1],(0,0),(0,0)):ao),true).1.2.1.1=[]from gz];rfl,rfl,Kx 0,by rw [show dz ((([0,1],(0,0),(0,0)):ao),true).1.2.2.1=[]from gz];rfl,rfl⟩,rfl⟩;have z:=aE 30000;have z2:=aE 10000;unfold vT pL dp eV;rw [if_pos rfl];refine⟨⟨?_,by decide,by decide⟩,?_,by decide,by decide⟩
    . show(0:Int)<_;omega
    . show(0:Int)<_;omega
theorem k285 :aH Tryz.prog VY:=av k258r hm Tryz.func285 (by kernel_rfl) (by kernel_rfl) sQ.ok (by kernel_rfl) (fun a=>aaj a) fun a hp=>by
 have h:TC a:=by
  rw [<-NA];(conv=>zeta);simp only [aA]
  try dsimp only at hp
  simp [-List.getD_eq_getElem?_getD,Tg];exact g285 hp
 exact h
abbrev EZ :wN (List (List Int)):=OE fm Wy
abbrev argW :Arg (List (List (List Int))):=zN EZ
abbrev wS (l:List (List (List Int))):SV:=argW.enc l
def sW :=iR.one argW
def dD :List (List (List Int))->ao×Bool
 |[]=>(d0,false)
 |c::r=>if(aJ c).2 then aJ c else dD r
def sR (l:List (List (List Int))):Prop:=l.length<=64/\(∀c∈l,lP c/\((aJ c).2=true->dp (aJ c).1.2.1/\dp (aJ c).1.2.2))/\ ∀i j,i<j->j<l.length->(aJ (l.getD i [])).2=true->(aJ (l.getD j [])).2=false
def ja (l:List (List (List Int))) (i:Int) (a:ao) (b:Bool):Prop:=0<=i/\i<=l.length/\if b then(a,true)=dD l/\(∀j,i<=j->j<l.length->(aJ (l.getD j.toNat [])).2=false)else a=d0/\dD (l.drop i.toNat)=dD l
def nm (a:ao):ao:=(ae a.1,a.2.1,a.2.2)
def pI (a:ao):Prop:=cr a.1/\fit a.2.1.1/\fit a.2.2.1
def HD (l:List (List (List Int))):Prop:=l.length<=64/\ ∀c∈l,c.length<=16/\ ∀p∈c,p.length<=9/\ ∀z∈p,z.natAbs<2^200
def dM (n i:Int):Prop:=0<=i/\i<=n
def jM (l:List (List (List Int))):Prop:=HD l/\sR l/\((dD l).2=true->pI (dD l).1)
attribute [irreducible] dD sR ja nm pI HD dM jM
def c227 :bB:=fl sW.dec (fun a=>sR a) (fun a=> .bp [nS (dD a).1, .bool (dD a).2])
def Uo :List (Nat×bB):=(227,c227)::VY
def a227 (l:List (List (List Int))):List kM:=[⟨.unit, .list [.int .i64 (.tm 12), .N2 ei 1 0, .bool (.tm 5)],fun _ (x:Int×ao×Bool)=>ja l x.1 x.2.1 x.2.2,fun _ (x:Int×ao×Bool)=>(l.length-x.1).toNat⟩]
def SY (l:List (List (List Int))):Prop:=fQ VY Tryz.f227 (a227 l) [wS l] (.bp [nS (dD l).1, .bool (dD l).2])
def c288 :bB:=fl sY1.dec (fun a=>fit a.1) (fun a=>yS a)
def Up :List (Nat×bB):=(288,c288)::Uo
def TV (y:Int×Int):Prop:=fQ Uo Tryz.f288 [] [yS y] (yS y)
def c228 :bB:=fl sN.dec (fun a=>pI a) (fun a=>nS (nm a))
def VO :List (Nat×bB):=(228,c228)::Up
def SK (q:ao):Prop:=fQ Up Tryz.f228 [] [nS q] (nS (nm q))
def c226 :bB:=fl sW.dec (fun a=>HD a) (fun a=> .bool false)
def VL :List (Nat×bB):=(226,c226)::VO
def Zv (l:List (List (List Int))):List kM:=[⟨.unit, .int .i64 (.tm 14),fun _ (i:Int)=>dM l.length i,fun _ (i:Int)=>(l.length-i).toNat⟩,⟨.int .i64 (.tm 14), .int .i64 (.tm 23),fun(i:Int) (j:Int)=>0<=i/\i<l.length/\dM (l.getD i.toNat []).length j,fun(i:Int) (j:Int)=>((l.getD i.toNat []).length-j).toNat⟩,⟨.list [.int .i64 (.tm 14), .int .i64 (.tm 23)], .int .i64 (.tm 8),fun(y:Int×Int) (j:Int)=>0<=y.1/\y.1<l.length/\0<=y.2/\y.2<(l.getD y.1.toNat []).length/\dM (tl ((l.getD y.1.toNat []).getD y.2.toNat [])) j,fun(y:Int×Int) (j:Int)=>(tl ((l.getD y.1.toNat []).getD y.2.toNat [])-j).toNat⟩]
def Tt (l:List (List (List Int))):Prop:=fQ VO Tryz.f226 (Zv l) [wS l] (.bool false)
def c167 :bB:=fl sW.dec (fun a=>jM a) (fun a=> .bp [nS (nm (dD a).1), .bool (dD a).2,iS 0])
def Va :List (Nat×bB):=(167,c167)::VL
def SI (l:List (List (List Int))):Prop:=fQ VL Tryz.f167 [] [wS l] (.bp [nS (nm (dD l).1), .bool (dD l).2,iS 0])
def c86 :bB:=fl sW.dec (fun a=>jM a) (fun a=> .bp [.bool (dD a).2,iS 0])
def T86 :List (Nat×bB):=(86,c86)::Va
def XD (l:List (List (List Int))):Prop:=fQ Va Tryz.f86 [] [wS l] (.bp [.bool (dD l).2,iS 0])
theorem LJ (l:List (List (List Int))):(
 let T:=false=false
 let G:=fun(m:List (List (List Int)))=>m.length
 let v:=fun(m:List (List (List Int))) (s:Nat)=>m.getD s []
 let c2:=fun(m:List (List (List Int)))=>G m=G m/\ ∀(i:Nat),i<G m->(sm (v m i).length/\ ∀(i_1:Nat),i_1<(v m i).length->(sm ((v m i).getD i_1
  []).length/\ ∀(i_2:Nat),i_2<((v m i).getD i_1 []).length->pW (((v m i).getD i_1 []).getD i_2 0))/\True)/\True
 let c:=fun(m:List (List (List Int)))=>(↑(G m):Int)
 let w:=sm (0:Int)
 let c3:=ab 32 True
 let j:=([]:List ar)
 let c4:=ar.s SV.aq::j
 let c5:=ar.s SV.ff::j++(c4++j)++(ar.s (SV.int IntKind.i64 0)::j++j)
 let c6:=List.map ar.shape (c4++(c5++(c5++j)))
 let k:=c6=c6
 let c0:=ab 3 (w/\ab 2 (w/\True))
 let c1:=sm 0
 let o:=fun(m:List (List (List Int))) (s:Int)=>m.getD s.toNat []
 let p:=true=true
 let g:=aj
 let c7:=fun(m:List (List (List Int))) (s:Int)=> !(aJ (C5 (o m s))).snd
 let H:=fun(m:Int)=>W (m+1)
 let c8:=fun(m:List (List (List Int))) (s:Int)=>(c m-H s).toNat<(c m-s).toNat
 let c9:=fun(m:List (List (List Int))) (s:Int)=>ab 4 (c2 m/\c m=c m/\sm (H s)/\c3)
 let x:=fun(m:ao)=>m.fst
 let y:=fun(m:ao)=>(x m).length
 let q:=fun(m:ao) (s:Nat)=>(x m).getD s 0
 let J:=fun(m:ao) (s:Nat)=>(dz (q m s)).length
 let d1:=fun(m:ao) (s:Nat)=>dz ((eR (x m)).getD s 0)
 let d2:=fun(m:ao)=>m.snd
 let K:=fun(m:ao)=>(d2 m).fst
 let d:=fun(m:ao)=>(K m).fst
 let L:=fun(m:ao)=>(dz (d m)).length
 let M:=fun(m:ao)=>(d2 m).snd
 let e:=fun(m:ao)=>(M m).fst
 let N:=fun(m:ao)=>(dz (e m)).length
 let d3:=fun(m:List (List (List Int))) (s:Int) (x1:ao) (y1:Bool)=>ja m (H s) (nn x1) y1/\c8 m s/\ab 5 (y1=y1/\c9 m s)/\k/\c0/\k/\((y x1
  =(eR (x x1)).length/\ ∀(i:Nat),i<y x1->decide (q x1 i<0)=decide ((eR (x x1)).getD i 0<0)/\(J x1 i=(d1 x1 i).length/\ ∀(i_1:Nat),i_1<J x1
  i->(dz (q x1 i)).getD i_1 0=(d1 x1 i).getD i_1 0/\True)/\True)/\decide (d x1<0)=decide (zz (d x1)<0)/\(L x1=(dz (zz (d x1))).length/\ ∀(i:Nat),
  i<L x1->(dz (d x1)).getD i 0=(dz (zz (d x1))).getD i 0/\True)/\sm (K x1).snd/\decide (e x1<0)=decide (zz (e x1)<0)/\(N x1=(dz (zz (e x1))).length
  /\ ∀(i:Nat),i<N x1->(dz (e x1)).getD i 0=(dz (zz (e x1))).getD i 0/\True)/\sm (M x1).snd/\True)/\True
 let r:=fun(m:List (List (List Int))) (s:Int)=>(aJ (C5 (o m s))).fst
 let t:=fun(m:List (List (List Int))) (s:Int)=>(r m s).fst
 let z:=fun(m:List (List (List Int))) (s:Int)=>(t m s).length
 let u:=fun(m:List (List (List Int))) (s:Int) (x1:Nat)=>(t m s).getD x1 0
 let O:=cR
 let d4:=fun(m:List (List (List Int))) (s:Int)=>(r m s).snd
 let A:=fun(m:List (List (List Int))) (s:Int)=>(d4 m s).fst
 let B:=fun(m:List (List (List Int))) (s:Int)=>(d4 m s).snd
 let d5:=fun(m:List (List (List Int))) (s:Int)=>(∀(i:Nat),i<z m s->p/\g.ak (g.enc (u m s i)))/\O.ak (yc (A m s))/\O.ak (yc (B m s))
 let h:=fun(m:List (List (List Int))) (s:Int)=>(A m s).fst
 let C:=fun(m:List (List (List Int))) (s:Int)=>zz (h m s)
 let d6:=fun(m:List (List (List Int))) (s:Int)=>aW (C m s)==0
 let D:=fun(m:List (List (List Int)))=>(dD m).fst.fst
 let d7:=fun(m:List (List (List Int))) (s:Nat)=>decide ((D m).getD s 0<0)
 let P:=fun(m:List (List (List Int))) (s:Int) (x1:Nat)=>(dz (u m s x1)).length
 let d8:=fun(m:List (List (List Int))) (s:Nat)=>(dz ((D m).getD s 0)).length
 let d9:=fun(m:List (List (List Int))) (s x1:Nat)=>(dz ((D m).getD s 0)).getD x1 0
 let e0:=fun(m:List (List (List Int)))=>(dD m).fst.snd
 let E:=fun(m:List (List (List Int)))=>(e0 m).fst
 let e1:=fun(m:List (List (List Int)))=>decide ((E m).fst<0)
 let Q:=fun(m:List (List (List Int))) (s:Int)=>(dz (h m s)).length
 let e2:=fun(m:List (List (List Int)))=>(dz (E m).fst).length
 let e3:=fun(m:List (List (List Int))) (s:Nat)=>(dz (E m).fst).getD s 0
 let f:=fun(m:List (List (List Int))) (s:Int)=>(B m s).fst
 let F:=fun(m:List (List (List Int)))=>(e0 m).snd
 let e4:=fun(m:List (List (List Int)))=>decide ((F m).fst<0)
 let R:=fun(m:List (List (List Int))) (s:Int)=>(dz (f m s)).length
 let e5:=fun(m:List (List (List Int)))=>(dz (F m).fst).length
 let e6:=fun(m:List (List (List Int))) (s:Nat)=>(dz (F m).fst).getD s 0
 let e7:=fun(m:List (List (List Int))) (s:Int)=>ja m (H s) (nn (r m s)) true/\c8 m s/\ab 5 (p/\c9 m s)/\k/\c0/\k/\((z m s=(eR (t m s)).length
  /\ ∀(i:Nat),i<z m s->decide (u m s i<0)=decide ((eR (t m s)).getD i 0<0)/\(P m s i=(dz ((eR (t m s)).getD i 0)).length/\ ∀(i_1:Nat),i_1<P
  m s i->(dz (u m s i)).getD i_1 0=(dz ((eR (t m s)).getD i 0)).getD i_1 0/\True)/\True)/\decide (h m s<0)=decide (C m s<0)/\(Q m s=(dz (C m s)).length
  /\ ∀(i:Nat),i<Q m s->(dz (h m s)).getD i 0=(dz (C m s)).getD i 0/\True)/\sm (A m s).snd/\decide (f m s<0)=decide (zz (f m s)<0)/\(R m s=(dz (zz
  (f m s))).length/\ ∀(i:Nat),i<R m s->(dz (f m s)).getD i 0=(dz (zz (f m s))).getD i 0/\True)/\sm (B m s).snd/\True)/\True
 let e8:=fun(m:List (List (List Int))) (s:Int)=>(d5 m s/\dp (yy (A m s))/\dp (yy (B m s)))/\(Ac (nn (r m s))=true->True/\(g.ak (zc (h m s))/\
  fit (C m s))/\True/\(d6 m s=true->ab 3 ((((z m s=(D m).length/\ ∀(i:Nat),i<z m s->decide (u m s i<0)=d7 m i/\(P m s i=d8 m i/\ ∀(i_1:Nat),
  i_1<P m s i->(dz (u m s i)).getD i_1 0=d9 m i i_1/\True)/\True)/\decide (h m s<0)=e1 m/\(Q m s=e2 m/\ ∀(i:Nat),i<Q m s->(dz (h m s)).getD i
  0=e3 m i/\True)/\(A m s).snd=(E m).snd/\decide (f m s<0)=e4 m/\(R m s=e5 m/\ ∀(i:Nat),i<R m s->(dz (f m s)).getD i 0=e6 m i/\True)/\(B m
  s).snd=(F m).snd/\True)/\(dD m).snd=true/\True)/\True))/\(d6 m s=false->True/\e7 m s))/\(Ac (nn (r m s))=false->ab 2 (e7 m s))
 ab 4 ((ja l 0 d0 false/\ab 5 (T/\ab 4 (c2 l/\c l=c l/\w/\c3))/\k/\c0/\k/\(c1/\T/\c1/\w/\T/\c1/\w/\True)/\True)/\ ∀(n:Int) (a:ao)
  (n_1:Bool),ja l n a n_1->True/\(decide (n<c l)=true->(0<=n/\n<c l)/\ab 2 (((∀(i:Nat),i<(o l n).length->p/\ ∀(i_1:Nat),i_1<((o l
  n).getD i []).length->p/\g.ak (g.enc (((o l n).getD i []).getD i_1 0)))/\lP (C5 (o l n)))/\True/\(c7 l n=true->ab 2 (d3 l n a n_1))/\(c7 l n=false
  ->(n_1=true->ab 2 (((d5 l n/\(∀(i:Nat),i<y a->p/\g.ak (g.enc (q a i)))/\O.ak (yc (K a))/\O.ak (yc (M a)))/\il (nn (r l n)) (nn a))/\True
  /\(p->True/\d3 l n a n_1)/\(true=false->ab 2 (e8 l n))))/\(n_1=false->ab 3 (e8 l n)))))/\(decide (n<c l)=false->ab 3 ((((y a=(D l).length/\
  ∀(i:Nat),i<y a->decide (q a i<0)=d7 l i/\(J a i=d8 l i/\ ∀(i_1:Nat),i_1<J a i->(dz (q a i)).getD i_1 0=d9 l i i_1/\True)/\True)/\decide
  (d a<0)=e1 l/\(L a=e2 l/\ ∀(i:Nat),i<L a->(dz (d a)).getD i 0=e3 l i/\True)/\(K a).snd=(E l).snd/\decide (e a<0)=e4 l/\(N a=e5 l/\ ∀
  (i:Nat),i<N a->(dz (e a)).getD i 0=e6 l i/\True)/\(M a).snd=(F l).snd/\True)/\n_1=(dD l).snd/\True)/\True))))=SY l:=by kernel_rfl
theorem PB (y:Int×Int):(
 let c:=fun(x:Int×Int)=>x.fst
 ab 2 ((aj.ak (zc (c y))/\fit (zz (c y)))/\ru true/\True/\(decide (zz (c y)<0)=decide (c y<0)/\((dz (zz (c y))).length=(dz (c y)).length/\ ∀(i
  :Nat),i<(dz (zz (c y))).length->(dz (zz (c y))).getD i 0=(dz (c y)).getD i 0/\True)/\y.snd=y.snd/\True)/\True))=TV y:=by kernel_rfl
theorem Nn (q:ao):(
 let c:=fun(x:ao)=>x.fst
 let p:=fun(x:ao)=>x.snd
 let k:=fun(x:ao)=>(p x).fst
 let d:=fun(x:ao)=>zz (k x).fst
 let o:=fun(x:ao)=>(p x).snd
 let e:=fun(x:ao)=>zz (o x).fst
 let r:=fun(x:ao)=>(ae (eR (c x))).length
 let f:=fun(x:ao)=>(nm x).fst
 let g:=fun(x:ao) (y:Nat)=>(ae (eR (c x))).getD y 0
 let s:=fun(x:ao)=>(nm x).snd
 let h:=fun(x:ao)=>(s x).fst
 let j:=fun(x:ao)=>(s x).snd
 ab 2 (((∀(i:Nat),i<(c q).length->true=true/\aj.ak (aj.enc ((c q).getD i 0)))/\cr (eR (c q)))/\True/\(cR.ak (yc (k q))/\fit (d q))/\True
  /\(cR.ak (yc (o q))/\fit (e q))/\ru true/\True/\((r q=(f q).length/\ ∀(i:Nat),i<r q->decide (g q i<0)=decide ((f q).getD i 0<0)/\((dz (g
  q i)).length=(dz ((f q).getD i 0)).length/\ ∀(i_1:Nat),i_1<(dz (g q i)).length->(dz (g q i)).getD i_1 0=(dz ((f q).getD i 0)).getD i_1 0/\True)/\True)
  /\decide (d q<0)=decide ((h q).fst<0)/\((dz (d q)).length=(dz (h q).fst).length/\ ∀(i:Nat),i<(dz (d q)).length->(dz (d q)).getD i 0=(dz (h q).fst).getD
  i 0/\True)/\(k q).snd=(h q).snd/\decide (e q<0)=decide ((j q).fst<0)/\((dz (e q)).length=(dz (j q).fst).length/\ ∀(i:Nat),i<(dz (e q)).length
  ->(dz (e q)).getD i 0=(dz (j q).fst).getD i 0/\True)/\(o q).snd=(j q).snd/\True)/\True))=SK q:=by kernel_rfl
theorem PL (l:List (List (List Int))):(
 let q:=fun(m:List (List (List Int)))=>m.length
 let d:=fun(m:List (List (List Int)))=>(↑(q m):Int)
 let x:=fun(m:List (List (List Int)))=>decide (d m>64)
 let r:=ab 2 (false=true/\True)
 let j:=fun(m:List (List (List Int))) (x1:Nat)=>m.getD x1 []
 let k:=fun(m:List (List (List Int)))=>q m=q m/\ ∀(i:Nat),i<q m->(sm (j m i).length/\ ∀(i_1:Nat),i_1<(j m i).length->(sm ((j m i).getD i_1
  []).length/\ ∀(i_2:Nat),i_2<((j m i).getD i_1 []).length->pW (((j m i).getD i_1 []).getD i_2 0))/\True)/\True
 let o:=fun(m:List (List (List Int)))=>d m=d m
 let t:=sm (0:Int)
 let y:=ab 29 True
 let e:=fun(m:Int)=>0<=m
 let s:=fun(m:List (List (List Int))) (x1:Int)=>m.getD x1.toNat []
 let u:=fun(m:List (List (List Int))) (x1:Int)=>(s m x1).length
 let c:=fun(m:List (List (List Int))) (x1:Int)=>(↑(u m x1):Int)
 let z:=fun(m:List (List (List Int))) (x1:Int)=>decide (c m x1>16)
 let A:=fun(m:List (List (List Int))) (x1:Int) (y1:Nat)=>((s m x1).getD y1 []).length
 let v:=fun(m:List (List (List Int))) (x1:Int)=>sm (u m x1)/\ ∀(i:Nat),i<u m x1->(sm (A m x1 i)/\ ∀(i_1:Nat),i_1<A m x1 i->pW (((s m x1).getD
  i []).getD i_1 0))/\True
 let w:=ab 20 True
 let f:=fun(m:List (List (List Int))) (x1 y1:Int)=>(s m x1).getD y1.toNat []
 let h:=fun(m:List (List (List Int))) (x1 y1:Int)=> ↑(tl (eR (f m x1 y1)))-(1:Int)
 let p:=fun(m:List (List (List Int))) (x1 y1:Int)=>(↑(tl (f m x1 y1)):Int)
 let B:=fun(m:List (List (List Int))) (x1 y1:Int)=>sm (f m x1 y1).length/\ ∀(i:Nat),i<(f m x1 y1).length->pW ((f m x1 y1).getD i 0)
 let C:=fun(m:List (List (List Int))) (x1 y1:Int)=>ab 3 (k m/\o m/\x1=x1/\ab 6 (v m x1/\c m x1=c m x1/\y1=y1/\w))
 let D:=fun(m:List (List (List Int))) (x1 y1 u1:Int)=>decide (bl (zz ((f m x1 y1).getD u1.toNat 0))>200)
 let g:=fun(m:Int)=>W (m+1)
 ab 2 ((x l=true->r)/\(x l=false->True/\(dM (d l) 0/\ab 12 (k l/\o l/\t/\y)/\True)/\ ∀(n:Int),dM (d l) n->True/\(decide (n<d l)=true
  ->(e n/\n<d l)/\ab 2 ((z l n=true->r)/\(z l n=false->True/\((e n/\n<d l/\dM (c l n) 0)/\ab 12 (k l/\o l/\n=n/\ab 6 (v l n/\c l n=
  c l n/\t/\w))/\True)/\ ∀(n_1:Int),e n/\n<d l/\dM (c l n) n_1->True/\(decide (n_1<c l n)=true->(e n_1/\n_1<c l n)/\ab 2 (((∀(i:Nat),
  i<(f l n n_1).length->true=true/\aj.ak (aj.enc ((f l n n_1).getD i 0)))/\cr (eR (f l n n_1)))/\ab 2 ((decide (h l n n_1>8)=true->r)/\(decide
  (h l n n_1>8)=false->True/\((e n/\n<d l/\e n_1/\n_1<c l n/\dM (p l n n_1) 0)/\ab 6 (B l n n_1/\sm (h l n n_1)/\t/\C l n n_1)/\True)/\ ∀(n_2
  :Int),e n/\n<d l/\e n_1/\n_1<c l n/\dM (p l n n_1) n_2->True/\(decide (n_2<=h l n n_1)=true->(e n_2/\n_2< ↑(f l n n_1).length)/\True/\(aj.ak
  (zc ((f l n n_1).getD n_2.toNat 0))/\fit (zz ((f l n n_1).getD n_2.toNat 0)))/\True/\(D l n n_1 n_2=true->r)/\(D l n n_1 n_2=false->True/\(e n/\n<d
  l/\e n_1/\n_1<c l n/\dM (p l n n_1) (g n_2))/\(p l n n_1-g n_2).toNat<(p l n n_1-n_2).toNat/\ab 6 (B l n n_1/\sm (h l n n_1)/\sm (g n_2)/\C
  l n n_1)/\True))/\(decide (n_2<=h l n n_1)=false->True/\(e n/\n<d l/\dM (c l n) (g n_1))/\(c l n-g n_1).toNat<(c l n-n_1).toNat/\ab 12 (k
  l/\o l/\n=n/\ab 6 (v l n/\c l n=c l n/\sm (g n_1)/\w))/\True)))))/\(decide (n_1<c l n)=false->True/\dM (d l) (g n)/\(d l-g n).toNat<(d
  l-n).toNat/\ab 12 (k l/\o l/\sm (g n)/\y)/\True))))/\(decide (n<d l)=false->ab 2 (false=false/\True)))))=Tt l:=by kernel_rfl
theorem PU (l:List (List (List Int))):(
 let h:=true=true
 let j:=fun(m:List (List (List Int))) (x1:Nat)=>m.getD x1 []
 let k:=aj
 let r:=fun(m:List (List (List Int)))=> ∀(i:Nat),i<m.length->h/\ ∀(i_1:Nat),i_1<(j m i).length->h/\ ∀(i_2:Nat),i_2<((j m i).getD i_1 []).length
  ->h/\k.ak (k.enc (((j m i).getD i_1 []).getD i_2 0))
 let G:=fun(m:List (List (List Int)))=>fun i=>EZ.enc (j m i)
 let o:=fun(m:List (List (List Int)))=>ah EZ m.length (G m)
 let c:=fun(m:List (List (List Int)))=>(nm (dD m).fst).fst
 let s:=fun(m:List (List (List Int)))=>(nm (dD m).fst).snd
 let d:=fun(m:List (List (List Int)))=>(s m).fst
 let t:=fun(m:List (List (List Int)))=>decide ((d m).fst<0)
 let u:=fun(m:List (List (List Int)))=>(dz (d m).fst).length
 let e:=fun(m:List (List (List Int)))=>(s m).snd
 let v:=fun(m:List (List (List Int)))=>decide ((e m).fst<0)
 let w:=fun(m:List (List (List Int)))=>(dz (e m).fst).length
 let x:=fun(m:List (List (List Int)))=>(c m).length=0/\t m=false/\u m=0/\0=(d m).snd/\v m=false/\w m=0/\0=(e m).snd/\True
 let y:=fun(m:List (List (List Int)))=> !(dD (o m)).snd
 let z:=sm (0:Int)/\True
 let f:=fun(m:List (List (List Int)))=>(dD (o m)).fst
 let A:=fun(m:List (List (List Int)))=>(f m).fst
 let B:=fun(m:List (List (List Int)))=>(f m).snd
 let g:=fun(m:List (List (List Int)))=>(nm (nn (f m))).fst
 let C:=fun(m:List (List (List Int))) (x1:Nat)=>(dz ((g m).getD x1 0)).length
 let D:=fun(m:List (List (List Int)))=>(nm (nn (f m))).snd
 let p:=fun(m:List (List (List Int)))=>(D m).fst
 let E:=fun(m:List (List (List Int)))=>(dz (p m).fst).length
 let q:=fun(m:List (List (List Int)))=>(D m).snd
 let F:=fun(m:List (List (List Int)))=>(dz (q m).fst).length
 ab (2:Nat) ((r l/\HD (o l))/\True/\(false=true->ab (4:Nat) ((x l/\(dD l).snd=false/\(2:Int)=(0:Int)/\True)/\True))/\(false=false->
  True/\(r l/\sR (o l))/\ab (2:Nat) ((y l=true->ab (4:Nat) ((x l/\(dD l).snd=false/\z)/\True))/\(y l=false->True/\(((∀(i:Nat),i<(A
  l).length->h/\k.ak (k.enc ((A l).getD i (0:Int))))/\cR.ak (yc (B l).fst)/\cR.ak (yc (B l).snd))/\pI (nn (f l)))/\ab (4:Nat) (((((g l).length
  =(c l).length/\ ∀(i:Nat),i<(g l).length->decide ((g l).getD i (0:Int)<(0:Int))=decide ((c l).getD i (0:Int)<(0:Int))/\(C l i=(dz ((c l).getD
  i (0:Int))).length/\ ∀(i_1:Nat),i_1<C l i->(dz ((g l).getD i (0:Int))).getD i_1 (0:Int)=(dz ((c l).getD i (0:Int))).getD i_1 (0:Int)/\True)/\
  True)/\decide ((p l).fst<(0:Int))=t l/\(E l=u l/\ ∀(i:Nat),i<E l->(dz (p l).fst).getD i (0:Int)=(dz (d l).fst).getD i (0:Int)/\True)/\(p
  l).snd=(d l).snd/\decide ((q l).fst<(0:Int))=v l/\(F l=w l/\ ∀(i:Nat),i<F l->(dz (q l).fst).getD i (0:Int)=(dz (e l).fst).getD i (0:Int)
  /\True)/\(q l).snd=(e l).snd/\True)/\(dD l).snd=true/\z)/\True))))))=SI l:=by kernel_rfl
theorem R9 (l:List (List (List Int))):(
 let d:=true=true
 let c:=fun(x:List (List (List Int))) (y:Nat)=>x.getD y []
 let f:=fun(x:List (List (List Int)))=>fun i=>EZ.enc (c x i)
 let e:=fun(x:List (List (List Int)))=>ah EZ x.length (f x)
 ab (2:Nat) (((∀(i:Nat),i<l.length->d/\ ∀(i_1:Nat),i_1<(c l i).length->d/\ ∀(i_2:Nat),i_2<((c l i).getD i_1 []).length->d/\aj.ak (aj.enc
  (((c l i).getD i_1 []).getD i_2 (0:Int))))/\jM (e l))/\ab (4:Nat) (((dD (e l)).snd=(dD l).snd/\sm (0:Int)/\True)/\True)))=XD l:=by kernel_rfl
theorem Mr (l:List (List (List Int))):(ah EZ l.length fun i=>EZ.enc (l.getD i []))=l:=iJ (C:=EZ) rfl
theorem yO :dD []=(d0,false):=by kernel_rfl
theorem vE (c:List (List Int)) (r:List (List (List Int))):dD (c::r)=if(aJ c).2 then aJ c else dD r:=by kernel_rfl
theorem ZI {l:List (List (List Int))} {i:Nat} (h:i<l.length):l.drop i=l.getD i []::l.drop (i+1):=by
 rw [Qa h,J0,J4 h];rfl
theorem WL {c:List (List (List Int))} {i:Nat} (h:i<c.length):c.getD i []∈c:=by
 rw [J0,J4 h];exact Ku _
theorem GK {l:List (List (List Int))} (h:sR l):l.length<=64/\(∀c∈l,lP c/\((aJ c).2=true->dp (aJ c).1.2.1/\dp (aJ c).1.2.2))/\ ∀i j,i<j->j<l.length->(aJ (l.getD i [])).2=true->(aJ (l.getD j [])).2=false:=by unfold sR at h;exact h
theorem PA {l:List (List (List Int))} (h:HD l):l.length<=64/\ ∀c∈l,c.length<=16/\ ∀p∈c,p.length<=9/\ ∀z∈p,z.natAbs<2^200:=by unfold HD at h;exact h
theorem BT (a:ao):nm a=(ae a.1,a.2.1,a.2.2):=by unfold nm;rfl
theorem memZ {c:List Int} {i:Nat} (h:i<c.length):c.getD i 0∈c:=by
 rw [J0,J4 h];exact Ku _
theorem AH : ∀{l:List (List (List Int))},(dD l).2=false->dD l=(d0,false)
 |[],_=>yO
 |c::r,h=>by
  rw [vE]at h⊢;cases hb:(aJ c).2 with
  |true=>rw [hb,if_pos rfl,hb]at h;cases h
  |false=>rw [hb,if_neg (by decide)]at h;rw [if_neg (by decide)];exact AH h
theorem k227 :aH Tryz.prog Uo:=av k285 hm Tryz.func227 (by kernel_rfl) (by kernel_rfl) sW.ok (by kernel_rfl) (fun a=>a227 a) fun a hp=>by
 have h:SY a:=by
  rw [<-LJ];(conv=>zeta);simp only [aA];generalize a=l at*
  try dsimp only at hp
  simp [-List.getD_eq_getElem?_getD];obtain⟨p1,p2,p3⟩:=GK hp;refine⟨by unfold ja;exact⟨by omega,by omega,by rw [if_neg (by decide)];exact⟨rfl,rfl⟩⟩,fun n x1 x2 x3 x4 x5=> ?_⟩;generalize hx:((x1,(x2,x3),x4,x5):ao)=x;have e1:x1=x.1:=by rw [<-hx]
  have e2:x2=x.2.1.1:=by rw [<-hx]
  have e3:x3=x.2.1.2:=by rw [<-hx]
  have e4:x4=x.2.2.1:=by rw [<-hx]
  have e5:x5=x.2.2.2:=by rw [<-hx]
  rw [e1,e2,e3,e4,e5];clear hx e1 e2 e3 e4 e5;refine⟨fun hinv=> ?_,fun hinv=> ?_⟩
  . unfold ja at hinv;obtain⟨h1,h2,h3⟩:=hinv;rw [if_neg (by decide)]at h3;obtain⟨rfl,h4⟩:=h3;refine⟨fun hn=> ?_,fun hn=> ?_⟩
    . have hm:=WL (c:=l) (i:=n.toNat) (by omega);have eW:=aG (n:=n+1) (by omega) (by omega);have e1:(n+1).toNat=n.toNat+1:=by omega
      rw [ZI (by omega),vE]at h4;rw [eW];refine⟨⟨h1,hn⟩,(p2 _ hm).1,fun hb=>⟨?_,by omega⟩,fun hb=> ?_⟩
      . rw [hb,if_neg (by decide)]at h4;unfold ja;rw [if_neg (by decide),e1];exact⟨by omega,by omega,rfl,h4⟩
      . rw [if_pos hb]at h4;have hz:=(p2 _ hm).2 hb;have hnx:ja l (n+1) (aJ (l.getD n.toNat [])).fst true:=by
         unfold ja;rw [if_pos rfl,<-h4];refine⟨by omega,by omega,by rw [<-hb],fun j hj hj2=>p3 n.toNat j.toNat (by omega) (by omega) hb⟩
        refine⟨hz,fun hx=>⟨(oe hz.1).1,fun hs=> ?_,fun hs=>⟨hnx,by omega⟩⟩,fun hx=>⟨hnx,by omega⟩⟩;rw [<-h4];exact⟨qE _,hb⟩
    . rw [Y6 (by omega),yO]at h4;rw [<-h4];exact⟨qE d0,rfl⟩
  . unfold ja at hinv;obtain⟨h1,h2,h3⟩:=hinv;rw [if_pos rfl]at h3;obtain⟨h3,h4⟩:=h3;refine⟨fun hn=> ?_,fun hn=> ?_⟩
    . have hm:=WL (c:=l) (i:=n.toNat) (by omega);have eW:=aG (n:=n+1) (by omega) (by omega);have hf:=h4 n (by omega) hn;rw [eW];refine⟨⟨h1,hn⟩,(p2 _ hm).1,fun hb=>⟨?_,by omega⟩,fun hb=> ?_⟩
      . unfold ja;rw [if_pos rfl];exact⟨by omega,by omega,h3,fun j hj=>h4 j (by omega)⟩
      . rw [hf]at hb;cases hb
    . rw [<-h3];exact⟨qE x,rfl⟩
 exact h
theorem k288 :aH Tryz.prog Up:=av k227 hm Tryz.func288 (by kernel_rfl) (by kernel_rfl) sY1.ok (by kernel_rfl) (fun _=>[]) fun a hp=>by
 have h:TV a:=by
  rw [<-PB];(conv=>zeta);simp only [aA];generalize a=y at*
  try dsimp only at hp
  simp [-List.getD_eq_getElem?_getD];exact hp
 exact h
theorem k228 :aH Tryz.prog VO:=av k288 hm Tryz.func228 (by kernel_rfl) (by kernel_rfl) sN.ok (by kernel_rfl) (fun _=>[]) fun a hp=>by
 have h:SK a:=by
  rw [<-Nn];(conv=>zeta);simp only [aA];generalize a=q at*
  try dsimp only at hp
  simp [-List.getD_eq_getElem?_getD];unfold pI at hp;rw [BT];exact⟨hp.1,hp.2.1,hp.2.2,qE (ae q.1,q.2.1,q.2.2)⟩
 exact h
theorem k226 :aH Tryz.prog VL:=av k228 hm Tryz.func226 (by kernel_rfl) (by kernel_rfl) sW.ok (by kernel_rfl) (fun a=>Zv a) fun a hp=>by
 have h:Tt a:=by
  rw [<-PL];(conv=>zeta);simp only [aA];generalize a=l at*
  try dsimp only at hp
  simp [-List.getD_eq_getElem?_getD];obtain⟨h1,h2⟩:=PA hp;refine⟨by omega,fun _=>⟨by unfold dM;omega,fun n hn hn2=> ?_⟩⟩;unfold dM at hn;have hm:=WL (c:=l) (i:=n.toNat) (by omega);obtain⟨h3,h4⟩:=h2 _ hm;refine⟨by omega,by omega,fun _=>⟨⟨by omega,by omega,by unfold dM;omega⟩,fun j _ _ hj=>⟨fun hj2=> ?_,fun hj2=> ?_⟩⟩⟩
  . unfold dM at hj;have hm2:=Lq (c:=l.getD n.toNat []) (i:=j.toNat) (by omega);obtain⟨h5,h6⟩:=h4 _ hm2;have ht:=cX ((l.getD n.toNat []).getD j.toNat []);have hfit: ∀z∈(l.getD n.toNat []).getD j.toNat [],fit z:=fun z hz=>bz (k:=7) (by
     have:=h6 z hz;have h9:(2:Nat)^200<=2^(32*7):=by decide
     have h10:((2^(32*7):Nat):Int)=(2:Int)^(32*7):=by norm_cast
     rw [fE];omega) (by omega)
    refine⟨by omega,Ir (by omega) hfit,by omega,fun _=>⟨⟨by omega,by omega,by omega,by omega,by unfold dM;omega⟩,fun k _ _ _ _ hk=>⟨fun hk2=> ?_,fun hk2=> ?_⟩⟩⟩
    . unfold dM at hk;have hm3:((l.getD n.toNat []).getD j.toNat []).getD k.toNat 0∈(l.getD n.toNat []).getD j.toNat []:=by
       exact memZ (by omega)
      refine⟨by omega,hfit _ hm3,?_,fun _=>⟨⟨by omega,by omega,by omega,by omega,?_⟩,?_⟩⟩
      . unfold bl;have:=xJ (h6 _ hm3);omega
      . rw [aG (n:=k+1) (by omega) (by omega)];unfold dM;omega
      . rw [aG (n:=k+1) (by omega) (by omega)];omega
    . rw [aG (n:=j+1) (by omega) (by omega)];refine⟨⟨by omega,by omega,?_⟩,by omega⟩;unfold dM;omega
  . rw [aG (n:=n+1) (by omega) (by omega)];refine⟨?_,by omega⟩;unfold dM;omega
 exact h
theorem k167 :aH Tryz.prog Va:=av k226 hm Tryz.func167 (by kernel_rfl) (by kernel_rfl) sW.ok (by kernel_rfl) (fun _=>[]) fun a hp=>by
 have h:SI a:=by
  rw [<-PU];(conv=>zeta);simp only [aA];generalize a=l at*
  try dsimp only at hp
  simp [-List.getD_eq_getElem?_getD,Mr];unfold jM at hp;obtain⟨h1,h2,h3⟩:=hp;refine⟨h1,h2,fun hb=> ?_,fun hb=>⟨h3 hb,hb⟩⟩;rw [AH hb,BT,show ae ((d0,false):ao×Bool).1.1=[] by rw [dq];exact List.take_nil];exact⟨qT,rfl⟩
 exact h
theorem k86 :aH Tryz.prog T86:=av k167 hm Tryz.func86 (by kernel_rfl) (by kernel_rfl) sW.ok (by kernel_rfl) (fun _=>[]) fun a hp=>by
 have h:XD a:=by
  rw [<-R9];(conv=>zeta);simp only [aA];generalize a=l at*
  try dsimp only at hp
  simp [-List.getD_eq_getElem?_getD,Mr];exact hp
 exact h
end Go.Proofs.Big
