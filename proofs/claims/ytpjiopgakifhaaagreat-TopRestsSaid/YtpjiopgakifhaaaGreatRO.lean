import Derived.Test.YtpjiopgakifhaaaGreatRA
import Derived.Test.YtpjiopgakifhaaaGreatRJ
import Derived.Test.YtpjiopgakifhaaaGreatRN
set_option linter.unusedSectionVars false
set_option linter.unusedSimpArgs false
set_option linter.unusedVariables false
set_option maxRecDepth 100000
namespace Go.Proofs.Big
open Go Go.Sx Go.Proofs Tryz
variable [bW]
attribute [local irreducible] lm nv tl dg dz
abbrev Pp:Arg Ω:=zN aj
abbrev pS(p:Ω):SV:=Pp.enc p
def frP(p:Ω):SV:=.Gl 204 2 p.length λi=>aj.enc (p.getD i 0)
def sP:=iR.one Pp
def Hs:=iR.cons Pp sP
def cr(p:Ω):Prop:=p.length<=1000/\∀z∈p,fit z
def bj(k:Nat)(p:Ω):Prop:=p.length<=1000/\∀z∈p,(z.natAbs:Int)<pw k
def ae(p:Ω):Ω:=p.take (tl p)
def dH(p:Ω):Ω:=p.map λz=> -z
def TL(p q:Ω)(n:Nat):Ω:=(List.range n).map λi=>p.getD i 0+q.getD i 0
def dZ(p q:Ω):Ω:=ae (TL p q (max (tl p) (tl q)))
def eI(p:Ω)(i:Int)(b:Ω):Prop:=0<=i/\i<=(tl p:Int)/\b=p.take i.toNat++List.replicate (tl p-i.toNat) 0
def iG(p:Ω)(i:Int)(b:Ω):Prop:=0<=i/\i<=(p.length:Int)/\b=dH (p.take i.toNat)++List.replicate (p.length-i.toNat) 0
def fI(p q:Ω)(i:Int)(b:Ω):Prop:=0<=i/\i<=(max (tl p) (tl q):Nat)/\b=TL p q i.toNat++List.replicate (max (tl p) (tl q)-i.toNat) 0
attribute [irreducible] cr bj ae dH TL dZ eI iG fI
def c254:bB:=ow sP.dec (λa=>cr a) (λa=>iS ((tl a:Int)-1))
def We:List (Nat×bB):=(254,c254)::Wn
def YG(p:Ω):List kM:=[⟨.unit,.int .i64 (.tm 3),λ_ (n:Int)=>(tl p:Int)<=n+1/\n<(p.length:Int),λ_ (n:Int)=>(n+1).toNat⟩]
def Sy(p:Ω):Prop:=fQ Wn f254 (YG p) [pS p] (iS ((tl p:Int)-1))
def c258:bB:=ow sP.dec (λa=>cr a) (λa=>frP (ae a))
def WO:List (Nat×bB):=(258,c258)::We
def XU(p:Ω):List kM:=[⟨.unit,.list [.int .i64 (.tm 15),.iQ aj (tl p) 0 0],λ_ (x:Int×Ω)=>eI p x.1 x.2,λ_ (x:Int×Ω)=>(tl p-x.1).toNat⟩]
def S2(p:Ω):Prop:=fQ We f258 (XU p) [pS p] (frP (ae p))
def c290:bB:=ow sP.dec (λa=>cr a) (λa=>pS (dH a))
def V7:List (Nat×bB):=(290,c290)::WO
def a290(p:Ω):List kM:=[⟨.unit,.list [.int .i64 (.tm 10),.iQ aj p.length 0 0],λ_ (x:Int×Ω)=>iG p x.1 x.2,λ_ (x:Int×Ω)=>(p.length-x.1).toNat⟩]
def TA(p:Ω):Prop:=fQ WO f290 (a290 p) [pS p] (pS (dH p))
def Rg:bB:=ow Hs.dec (λa=>bj 100000 a.1/\bj 100000 a.2) (λa=>pS (dZ a.1 a.2))
def Uk:List (Nat×bB):=(289,Rg)::V7
def YV(p:Ω)(q:Ω):List kM:=[⟨.unit,.list [.int .i64 (.tm 21),.iQ aj (max (tl p) (tl q)) 0 0],λ_ (x:Int×Ω)=>fI p q x.1 x.2,λ_ (x:Int×Ω)=>((max (tl p) (tl q):Nat)-x.1).toNat⟩]
def S4(p:Ω)(q:Ω):Prop:=fQ V7 f289 (YV p q) [pS p,pS q] (pS (dZ p q))
theorem Ng(p:Ω):(
 let c:=λ(x:Ω)=>(↑(tl x):Int)
 let d:=λ(x:Ω)=>(↑x.length:Int)
 let e:=λ(x:Ω)=>W (d x-1)
 let f:=λ(x:Ω)=>x.length=x.length/\∀i,i<x.length->sm (decide (x.getD i 0<0))/\(sm (dz (x.getD i 0)).length/\∀(b:Nat),b
  <(dz (x.getD i 0)).length->sm ((dz (x.getD i 0)).getD b 0)/\True)/\True
 let g:=ab 16 True
 let h:=λ(x:Int)=>decide (x>=0)
 let j:=λ(x:Ω)(y:Int)=>aW (zz (x.getD y.toNat 0))==0
 ab 2 (((c p<=e p+1/\e p<d p)/\(f p/\ab 2 (sm (e p)/\g))/\True)/\∀(n:Int),c p<=n+1/\n<d p->(h n=true->(0<=n/\n<d p)/\True/\(aj.ak
  (zc (p.getD n.toNat 0))/\fit (zz (p.getD n.toNat 0)))/\True/\(j p n=true->True/\(c p<=W (n-1)+1/\W (n-1)<d p)/\(W (n-1)+1).toNat<(n+1).toNat
  /\(f p/\ab 2 (sm (W (n-1))/\g))/\True)/\(j p n=false->ab 2 (n=c p-1/\True)))/\(h n=false->ab 3 (n=c p-1/\True))))=Sy p:=by kernel_rfl
theorem L9(p:Ω):(
 let e:=λ(x:Ω)=>x.length
 let c:=aj
 let s:=λ(x:Ω)(m:Nat)=>c.enc (x.getD m 0)
 let A:=λ(x:Ω)=>ah c (e x) (s x)
 let f:=λ(x:Ω)=>W (↑(tl (A x))-1+1)
 let B:=λ(x:Ω)=>f x==0
 let k:=λ(x:Ω)=>(ae x).length
 let t:=λ(m:Ω)=>ah c (tl m) λx=>[SV.ff,SV.aq]
 let u:=λ(x:Ω)(m:Nat)=>decide (x.getD m 0<0)
 let h:=λ(x:Ω)(m:Nat)=>(dz (x.getD m 0)).length
 let v:=λ(x:Ω)(m G:Nat)=>(dz (x.getD m 0)).getD G 0
 let C:=λ(x:Ω)=>e x=e x/\∀i,i<e x->sm (u x i)/\(sm (h x i)/\∀(b:Nat),b<h x i->sm (v x i b)/\True)/\True
 let w:=sm 0
 let g:=λ(x:Ω)=>(f x).toNat
 let d:=λ(x:Ω)=>(↑(g x):Int)
 let D:=ab 12 True
 let o:=([]:List (Option (Nat×Nat)))
 let E:=2=c.n
 let j:=λ(x:Ω)(m:Int)=>zz (x.getD m.toNat 0)
 let y:=λ(x:Int)=>0+x.toNat
 let q:=λ(x:Nat)(m:Int)=>decide (x=y m)
 let r:=λ(x m:Ω)(G:Int)=>ah c (tl x) λH=>af (q H G) (cE (c.enc (m.getD (y G) 0)) 0 (zc (j x G))) (s m H)
 let F:=λ(x:Nat)(m:Int)(G J:Ω)=>if q x m=true then(dz (j G m)).length else h J x
 let z:=aF IntKind.u32
 ab (2:Nat) (((∀i,i<e p->true=true/\c.ak (s p i))/\cr (A p))/\ab (2:Nat) ((B p=true->True/\(k p=(0:Nat)/\True)/\True)/\(B p
  =false->(sm (f p)/\(0:Int)<=f p/\f p<=(9223372036854775807:Int)/\(32:Int)*f p<=(281474976710656:Int))/\ab (2:Nat) ((eI p (0:Int) (t p)
  /\(C p/\ab (3:Nat) ((w/\sm (g p))/\ab (9:Nat) (d p=d p/\sm (0:Int)/\D)))/\o=o/\((g p=tl p/\E/\∀i,i<g p->decide ((t p).getD i
  (0:Int)<(0:Int))=false/\(dz ((t p).getD i (0:Int))).length=(0:Nat)/\True)/\True)/\True)/\∀(n:Int)(l:Ω),eI p n l->True/\(decide
  (n<d p)=true->True/\((0:Int)<=n/\n< ↑(e p))/\True/\(c.ak (zc (p.getD n.toNat (0:Int)))/\fit (j p n))/\((0:Int)<=n/\n<d p)/\y n<tl p/\
  ab (2:Nat) (eI p (W (n+(1:Int))) (r p l n)/\(↑(tl p)-W (n+(1:Int))).toNat<(↑(tl p)-n).toNat/\(C p/\ab (3:Nat) ((w/\sm (g p))/\ab (9
  :Nat) (d p=d p/\sm (W (n+(1:Int)))/\D)))/\o=o/\((tl p=tl p/\E/\∀i,i<tl p->(if q i n=true then decide (j p n<(0:Int))else u l
  i)=decide ((r p l n).getD i (0:Int)<(0:Int))/\(F i n p l=(dz ((r p l n).getD i (0:Int))).length/\∀(b:Nat),b<F i n p l->bK (if q i n=
  true then z.enc ((dz (j p n)).getD b (0:Int))else z.enc (v l i b)) (z.enc ((dz ((r p l n).getD i (0:Int))).getD b (0:Int))))/\True)/\True)/\True))
  /\(decide (n<d p)=false->True/\((w/\g p=k p/\k p<=tl p)/\(∀i,i<k p->true=true/\u l i=decide ((ae p).getD i (0:Int)<(0:Int))
  /\(h l i=(dz ((ae p).getD i (0:Int))).length/\∀(b:Nat),b<h l i->v l i b=(dz ((ae p).getD i (0:Int))).getD b (0:Int)/\True)/\True)
  /\True)/\True))))))=S2 p:=by kernel_rfl
theorem LM(p:Ω):(
 let d:=λ(x:Ω)=>x.length
 let c:=λ(x:Ω)=>(↑(d x):Int)
 let f:=aj
 let k:=λ(m:Ω)=>ah f (d m) λx=>[SV.ff,SV.aq]
 let s:=λ(x:Ω)(m:Nat)=>decide (x.getD m 0<0)
 let o:=λ(x:Ω)(m:Nat)=>(dz (x.getD m 0)).length
 let t:=λ(x:Ω)=>d x=d x/\∀i,i<d x->sm (s x i)/\(sm (o x i)/\∀(b:Nat),b<o x i->sm ((dz (x.getD i 0)).getD b 0)/\True)
  /\True
 let e:=λ(x:Ω)=>(c x).toNat
 let u:=λ(x:Ω)=>sm 0/\sm (e x)
 let v:=ab 12 True
 let g:=([]:List (Option (Nat×Nat)))
 let w:=2=f.n
 let q:=λ(x:Int)=>0+x.toNat
 let h:=λ(x:Nat)(m:Int)=>decide (x=q m)
 let j:=λ(x m:Ω)(B:Int)=>ah f (d x) λC=>af (h C B) (cE (f.enc (m.getD (q B) 0)) 0 (zc (-zz (x.getD B.toNat 0)))) (f.enc (m.getD
  C 0))
 let y:=λ(x:Ω)(m:Int)=>dz (-zz (x.getD m.toNat 0))
 let z:=λ(x:Nat)(m:Int)(B D:Ω)=>if h x m=true then(y B m).length else o D x
 let r:=aF IntKind.u32
 let A:=λ(x:Ω)(m:Nat)=>(dz (x.getD (0+m) 0)).length
 True/\(c p=c p/\(0:Int)<=c p/\c p<=(9223372036854775807:Int)/\(32:Int)*c p<=(281474976710656:Int))/\ab (2:Nat) ((iG p (0:Int) (k p)
  /\(t p/\ab (2:Nat) (u p/\ab (5:Nat) (c p=c p/\sm (0:Int)/\v)))/\g=g/\((e p=d p/\w/\∀i,i<e p->decide ((k p).getD i (0:Int)<
  (0:Int))=false/\(dz ((k p).getD i (0:Int))).length=(0:Nat)/\True)/\True)/\True)/\∀(n:Int)(l:Ω),iG p n l->True/\(decide (n<c
  p)=true->True/\((0:Int)<=n/\n<c p)/\True/\(f.ak (zc (p.getD n.toNat (0:Int)))/\fit (zz (p.getD n.toNat (0:Int))))/\((0:Int)<=n/\n< ↑(e p))
  /\q n<d p/\ab (2:Nat) (iG p (W (n+(1:Int))) (j p l n)/\(c p-W (n+(1:Int))).toNat<(c p-n).toNat/\(t p/\ab (2:Nat) (u p/\ab (5:Nat)
  (c p=c p/\sm (W (n+(1:Int)))/\v)))/\g=g/\((d p=d p/\w/\∀i,i<d p->(if h i n=true then decide (-zz (p.getD n.toNat (0:Int))<(0:
  Int))else s l i)=decide ((j p l n).getD i (0:Int)<(0:Int))/\(z i n p l=(dz ((j p l n).getD i (0:Int))).length/\∀(b:Nat),b<z i n p l->bK
  (if h i n=true then r.enc ((y p n).getD b (0:Int))else r.enc ((dz (l.getD i (0:Int))).getD b (0:Int))) (r.enc ((dz ((j p l n).getD i (0:Int))).getD
  b (0:Int))))/\True)/\True)/\True))/\(decide (n<c p)=false->True/\((0:Nat)+e p<=d p/\∀i,i<d p->true=true)/\(e p=(dH p).length
  /\∀i,i<e p->decide (l.getD ((0:Nat)+i) (0:Int)<(0:Int))=decide ((dH p).getD i (0:Int)<(0:Int))/\(A l i=(dz ((dH p).getD i (0
  :Int))).length/\∀(b:Nat),b<A l i->(dz (l.getD ((0:Nat)+i) (0:Int))).getD b (0:Int)=(dz ((dH p).getD i (0:Int))).getD b (0:Int)/\
  True)/\True)/\True)))=TA p:=by kernel_rfl
theorem LN(p:Ω)(q:Ω):(
 let t:=λ(x:Ω)=>x.length
 let E:=true=true
 let d:=aj
 let h:=λ(x:Ω)(m:Nat)=>d.enc (x.getD m 0)
 let c9:=λ(x:Ω)=>ah d (t x) (h x)
 let d0:=λ(x:Ω)=>(∀i,i<t x->E/\d.ak (h x i))/\cr (c9 x)
 let k:=λ(x:Ω)=>W (↑(tl (c9 x))-1+1)
 let w:=λ(x m:Ω)=>if k x>k m then k x else k m
 let c:=λ(x m:Ω)=>max (tl x) (tl m)
 let c0:=λ(m b:Ω)=>ah d (c m b) λx=>[SV.ff,SV.aq]
 let F:=λ(x:Ω)(m:Nat)=>decide (x.getD m 0<0)
 let u:=λ(x:Ω)(m:Nat)=>(dz (x.getD m 0)).length
 let G:=λ(x:Ω)(m b:Nat)=>(dz (x.getD m 0)).getD b 0
 let H:=λ(x:Ω)=>t x=t x/\∀i,i<t x->sm (F x i)/\(sm (u x i)/\∀(X:Nat),X<u x i->sm (G x i X)/\True)/\True
 let J:=λ(x:Ω)=>sm (k x)
 let o:=λ(x m:Ω)=>(w x m).toNat
 let d1:=λ(x m:Ω)=>sm 0/\sm (o x m)
 let r:=λ(x m:Ω)=>(↑(o x m):Int)
 let d2:=ab 30 True
 let d3:=([]:List (Option (Nat×Nat)))
 let y:=d3=d3
 let c1:=d.n
 let K:=2=c1
 let c2:=λ(x:Int)(m:Ω)=>decide (x<k m)=true
 let c3:=λ(x:Int)(m:Ω)=>0<=x/\x< ↑(t m)
 let z:=λ(x:Int)(m b:Ω)=>0<=x/\x<r m b
 let A:=λ(x:Int)=>0+x.toNat
 let B:=λ(x:Int)(m b:Ω)=>A x<c m b
 let L:=λ(x:Int)=>decide (A x=A x)
 let e:=λ(x:Ω)(m:Int)=>x.getD m.toNat 0
 let s:=λ(x:Ω)(m:Int)=>x.getD (A m) 0
 let d4:=λ(x:Int)(m b:Ω)=>if L x=true then decide (e m x<0)else decide (s b x<0)
 let d5:=λ(x:Int)(m b:Ω)=>if L x=true then(dz (e m x)).length else(dz (s b x)).length
 let g:=aF IntKind.u32
 let d6:=λ(x:Int)(m b:Ω)(Z:Nat)=>if L x=true then g.enc ((dz (e m x)).getD Z 0)else g.enc ((dz (s b x)).getD Z 0)
 let C:=λ(x:Int)(m b:Ω)=>zv (d4 x m b) (ah g (d5 x m b) (d6 x m b))
 let v:=λ(x:Int)=>W (x+1)
 let f:=λ(x:Nat)(m:Int)=>decide (x=A m)
 let M:=λ(x:Ω)(m:Int)=>d.enc (s x m)
 let c4:=λ(x:Nat)(m:Int)(b Z:Ω)=>af (f x m) (cE (M b m) 0 (zc (e Z m))) (h b x)
 let N:=λ(x m b:Ω)(Z:Int)=>ah d (c x m) λi'=>af (f i' Z) (cE (af (L Z) (cE (M b Z) 0 (zc (e x Z))) (M b Z)) 0 (zc (C
  Z x b+zz (e m Z)))) (c4 i' Z b x)
 let O:=λ(x m:Ω)(b:Int)=>(↑(c x m)-v b).toNat<(↑(c x m)-b).toNat
 let P:=λ(x m:Ω)(b:Int)=>H x/\H m/\ab 3 (J x/\J m/\d1 m x/\ab 12 (r m x=r m x/\sm (v b)/\d2))
 let d7:=λ(x:Nat)(m:Int)(b Z:Ω)=>if f x m=true then decide (e b m<0)else F Z x
 let c5:=λ(x:Nat)(m:Int)(b Z:Ω)=>if f x m=true then(dz (e b m)).length else u Z x
 let d8:=λ(x:Nat)(m:Int)(b Z u1:Ω)=>if f x m=true then(dz (C m b Z+zz (e u1 m))).length else c5 x m b Z
 let d9:=λ(x m:Nat)(b:Int)(Z u1:Ω)=>if f x b=true then g.enc ((dz (e Z b)).getD m 0)else g.enc (G u1 x m)
 let c6:=λ(x:Int)(m:Ω)=>decide (x<k m)=false
 let c7:=λ(x m b:Ω)(Z:Int)(u1:Nat)=>(ah d (c x m) λi'=>c4 i' Z b x).getD u1 0
 let Q:=λ(x m:Ω)(b:Int)=>zz (s x b)+zz (e m b)
 let R:=λ(x m b:Ω)(Z:Int)=>ah d (c x m) λi'=>af (f i' Z) (cE (M b Z) 0 (zc (Q b m Z))) (h b i')
 let e0:=λ(x:Nat)(m:Int)(b Z:Ω)=>if f x m=true then(dz (Q b Z m)).length else u b x
 let e1:=λ(x m b:Ω)(Z:Nat)=>dz ((ah d (c x m) (h b)).getD Z 0)
 let e2:=λ(x:Ω)(m:Nat)=>d.enc (x.getD (0+m) 0)
 let T:=λ(x m b:Ω)=>ah d (o x m) λi=>e2 b i
 let D:=λ(x m b:Ω)=>(ae (T x m b)).length
 let c8:=λ(x m b:Ω)(Z:Nat)=>dz ((ae (T x m b)).getD (0+Z) 0)
 ab (2:Nat) (d0 p/\True/\d0 q/\True/\(sm (w q p)/\(0:Int)<=w q p/\w q p<=(9223372036854775807:Int)/\(32:Int)*w q p<=(281474976710656:Int))
  /\ab (2:Nat) ((fI p q (0:Int) (c0 p q)/\(H p/\H q/\ab (3:Nat) (J p/\J q/\d1 q p/\ab (12:Nat) (r q p=r q p/\sm (0:Int)/\d2)))/\y/\((o
  q p=c p q/\K/\∀i,i<o q p->decide ((c0 p q).getD i (0:Int)<(0:Int))=false/\(dz ((c0 p q).getD i (0:Int))).length=(0:Nat)/\True)/\
  True)/\True)/\∀(n:Int)(l:Ω),fI p q n l->True/\(decide (n<r q p)=true->ab (2:Nat) ((c2 n p->c3 n p/\z n q p/\B n p q/\ab (2:Nat)
  ((c2 n q->z n q p/\B n p q/\c3 n q/\ab (2:Nat) (((d.ak [SV.bool (d4 n p l),SV.bF (1:Nat) (d5 n p l) λi=>d6 n p l i]/\d.ak (zc (e q n)))/\fit
  (C n p l)/\fit (zz (e q n)))/\z n q p/\B n p q/\ru true/\True/\fI p q (v n) (N p q l n)/\O p q n/\P p q n/\y/\((sm (c p q)/\K/\∀i,i<
  c p q->(if f i n=true then decide (C n p l+zz (e q n)<(0:Int))else d7 i n p l)=decide ((N p q l n).getD i (0:Int)<(0:Int))/\(d8 i n p l q=(dz
  ((N p q l n).getD i (0:Int))).length/\∀(X:Nat),X<d8 i n p l q->bK (if f i n=true then g.enc ((dz (C n p l+zz (e q n))).getD X (0:Int))else
  d9 i X n p l) (g.enc ((dz ((N p q l n).getD i (0:Int))).getD X (0:Int))))/\True)/\True)/\True))/\(c6 n q->True/\fI p q (v n) (ah d (c p q) λ
  i'=>c4 i' n l p)/\O p q n/\P p q n/\y/\((sm (c p q)/\K/\∀i,i<c p q->d7 i n p l=decide (c7 p q l n i<(0:Int))/\(c5 i n p l=(dz (c7 p
  q l n i)).length/\∀(X:Nat),X<c5 i n p l->bK (d9 i X n p l) (g.enc ((dz (c7 p q l n i)).getD X (0:Int))))/\True)/\True)/\True)))/\(c6 n p
  ->True/\(c2 n q->z n q p/\B n p q/\c3 n q/\ab (2:Nat) (((d.ak (zc (s l n))/\d.ak (zc (e q n)))/\fit (zz (s l n))/\fit (zz (e q n)))/\z n q p/\B
  n p q/\ru true/\True/\fI p q (v n) (R p q l n)/\O p q n/\P p q n/\y/\((sm (c p q)/\K/\∀i,i<c p q->(if f i n=true then decide (Q l q
  n<(0:Int))else F l i)=decide ((R p q l n).getD i (0:Int)<(0:Int))/\(e0 i n l q=(dz ((R p q l n).getD i (0:Int))).length/\∀(X:Nat),X<
  e0 i n l q->bK (if f i n=true then g.enc ((dz (Q l q n)).getD X (0:Int))else g.enc (G l i X)) (g.enc ((dz ((R p q l n).getD i (0:Int))).getD X (0
  :Int))))/\True)/\True)/\True))/\(c6 n q->True/\fI p q (v n) (ah d (c p q) (h l))/\O p q n/\P p q n/\y/\((sm (c p q)/\c1=c1/\∀i,i<
  c p q->F l i=decide ((ah d (c p q) (h l)).getD i (0:Int)<(0:Int))/\(u l i=(e1 p q l i).length/\∀(X:Nat),X<u l i->G l i X=(e1 p q l
  i).getD X (0:Int)/\True)/\True)/\True)/\True))))/\(decide (n<r q p)=false->((0:Nat)+o q p<=c p q/\∀i,i<c p q->E)/\((∀(i:Nat),
  i<o q p->E/\d.ak ((λ(j:Nat)=>aj.enc (l.getD j (0:Int))) ((0:Nat)+i)))/\cr (T q p l))/\True/\((0:Nat)+D q p l<=D q p l/\∀(i:Nat),
  i<D q p l->E)/\(D q p l=(dZ p q).length/\∀i,i<D q p l->decide ((ae (T q p l)).getD ((0:Nat)+i) (0:Int)<(0:Int))=decide ((dZ
  p q).getD i (0:Int)<(0:Int))/\((c8 q p l i).length=(dz ((dZ p q).getD i (0:Int))).length/\∀(X:Nat),X<(c8 q p l i).length->(c8 q p l i).getD
  X (0:Int)=(dz ((dZ p q).getD i (0:Int))).getD X (0:Int)/\True)/\True)/\True))))=S4 p q:=by kernel_rfl
@[simp] theorem goodE(z:Int):aj.ak (aj.enc z):=aj.kW z
@[simp] theorem rK(p:Ω):ah aj p.length (λi=>aj.enc (p.getD i 0))=p:=iJ rfl
theorem lE{p:Ω}{n:Nat}(h:n=p.length):ah aj n (λi=>aj.enc (p.getD i 0))=p:=by subst h;exact rK p
@[simp] theorem zerosZ(n:Nat):ah aj n (λ_=>[SV.ff,SV.aq])=List.replicate n 0:=xY QN
@[simp] theorem setL_zc(x v:Int):cE (aj.enc x) 0 (zc v)=zc v:=by
 rw[CC];unfold cE;simp[M3]
@[simp] theorem setL_null(v:Int):cE [SV.ff,SV.aq] 0 (zc v)=zc v:=by
 rw[CC];unfold cE;simp[M3]
@[simp] theorem setL_zz(x v:Int):cE (zc x) 0 (zc v)=zc v:=by
 rw[CC,CC];unfold cE;simp[M3]
theorem uK{l:Ω}{n k:Nat}{v:Int}(b:n=l.length):ah aj n (λj=>af (decide (j=k)) (zc v) (aj.enc (l.getD j 0)))=l.set k v:=by rw[CC];exact R3 b
@[simp] theorem setL_mm(c:Bool)(x y v:Int):cE (af c (zc x) (aj.enc y)) 0 (zc v)=zc v:=by
 rw[CC,CC];unfold cE;simp[M3,af]
@[simp] theorem YP{α:Type}{c:Prop}[Decidable c](x y z:α):(if c then x else if c then y else z)=if c then x else z:=by split<;>simp_all
theorem NP{l:Ω}{n k:Nat}{u v:Int}(b:n=l.length):ah aj n (λj=>af (decide (j=k)) (zc v) (af (decide (j=k)) (zc u) (aj.enc (l.getD j 0))))=l.set k v:=by
 refine kj (by simp[b]) λj e=>?_
 have c:=aj.Aa (decide (j=k)) _ _ _ _ (Ia u) (aj.self (l.getD j 0));have d:=aj.Aa (decide (j=k)) _ _ _ _ (Ia v) c;rw[d,show aj.qW=0 from rfl,bo (by omega)];simp only[JG,YP]
theorem jK{l:Ω}{n k:Nat}{v:Int}{b:Bool}(c:b=decide (v<0))(d:n=l.length):∀i,i<n->
 (if i=k then b else decide (l.getD i 0<0))=decide ((l.set k v).getD i 0<0)/\(if i=k then(dz v).length else(dz (l.getD i 0)).length)=(dz ((l.set k v).getD i 0)).length/\
  ∀j:Nat,(j<if i=k then(dz v).length else(dz (l.getD i 0)).length)->bK (if i=k then [SV.int .u32 ((dz v).getD j 0)]else [SV.int .u32 ((dz (l.getD i 0)).getD j 0)]) [SV.int .u32 ((dz ((l.set k v).getD i 0)).getD j 0)]:=by
 intro i e;subst c;rw[bo (by omega)];have le:∀x:Int,bK [SV.int .u32 x] [SV.int .u32 x]:=λx=>⟨vX rfl,trivial⟩
 by_cases h:i=k
 . rw[JB h,JB h,JB h];exact⟨rfl,rfl,λj _=>by rw[JB h];exact le _⟩
 . rw[JA h,JA h,JA h];exact⟨rfl,rfl,λj _=>by rw[JA h];exact le _⟩
theorem Bg(n:Nat):∀i,i<n->0<=(List.replicate n (0:Int)).getD i 0/\dz ((List.replicate n (0:Int)).getD i 0)=[]:=by
 intro i b;rw[gR];exact⟨by omega,gz⟩
theorem jC{p:Ω}(h:cr p):p.length<=1000:=by unfold cr at h;exact h.1
theorem qs:fit 0:=by unfold fit;rw[gz];simp
theorem uG{p:Ω}{Q:Int->Prop}(c:Q 0)(h:∀z∈p,Q z)(i:Nat):Q (p.getD i 0):=by
 by_cases b:i<p.length
 . rw[J0,J4 b];exact h _ (Ku b)
 . rw[J0,J7 (by omega)];exact c
theorem cP{p:Ω}(h:cr p)(i:Nat):fit (p.getD i 0):=by unfold cr at h;exact uG qs h.2 i
theorem bU{k:Nat}{p:Ω}(h:bj k p)(i:Nat):((p.getD i 0).natAbs:Int)<pw k:=by
 unfold bj at h;exact uG (Q:=λz=>(z.natAbs:Int)<pw k) (by simpa using bN k) h.2 i
theorem jm{k:Nat}{p:Ω}(h:bj k p):p.length<=1000:=by unfold bj at h;exact h.1
theorem fX{z:Int}{k:Nat}(h:(z.natAbs:Int)<pw k)(b:k<=1000000):fit z:=by
 unfold fit;have:=Bc h;omega
theorem bu{k:Nat}{p:Ω}(h:bj k p)(b:k<=1000000):cr p:=by
 unfold bj at h;unfold cr;exact⟨h.1,λz c=>fX (h.2 z c) b⟩
theorem jd{k:Nat}{p:Ω}(b:p.length<=1000)(c:∀z∈p,(z.natAbs:Int)<pw k):bj k p:=by unfold bj;exact⟨b,c⟩
theorem an{k m:Nat}{p:Ω}(h:bj k p)(b:k<=m):bj m p:=by
 unfold bj at*;exact⟨h.1,λz c=>by have:=h.2 z c;have:=gT b;omega⟩
theorem fK{p:Ω}{i:Nat}(h:tl p<=i):p.getD i 0=0:=by
 induction p generalizing i with
 |nil=>simp
 |cons x r b=>
  cases i with
  |zero=>
   simp only[tl]at h;split at h
   . split at h
     . simpa
     . omega
   . omega
  |succ i=>
   simp only[Zb];apply b;simp only[tl]at h;split at h
   . omega
   . omega
theorem dq(p:Ω):ae p=p.take (tl p):=by unfold ae;rfl
theorem bn(p:Ω):(ae p).length=tl p:=by rw[dq,Kj,Qn (cX p)]
theorem ck(p:Ω)(i:Nat):(ae p).getD i 0=p.getD i 0:=by
 rw[dq]
 by_cases h:i<tl p
 . exact qX h
 . rw[fK (Nat.le_of_not_lt h),J0,J7 (by rw[Kj];omega)];rfl
theorem ju{z:Int}:aW z=0↔z=0:=by
 unfold aW;split
 . constructor<;>intro h<;>omega
 . split<;>simp_all
theorem Yk:aH prog We:=av aal hm func254 (by kernel_rfl) (by kernel_rfl) sP.ok (by kernel_rfl) (λa=>YG a) λa b=>by
 have h:Sy a:=by
  rw[<-Ng];simp only[aA];generalize a=p at*
  try dsimp only at b
  have j:=jC b;have k:=cX p;simp[-List.getD_eq_getElem?_getD,cP b];have d:W ((p.length:Int)-1)=p.length-1:=aO (by omega) (by omega);rw[d];refine⟨by omega,λn m o=>⟨λi=>?_,λi=>by omega⟩⟩;rw[aO (n:=n-1) (by omega) (by omega)];have c:=qQ (l:=p) (n:=n.toNat+1) (by omega) (by omega);rw[show n.toNat+1-1=n.toNat by omega]at c;refine⟨by omega,λe=>⟨?_,by omega⟩,λe=>?_⟩
  . have:=c.1 ⟨by omega,ju.1 e⟩;omega
  . have: ¬tl p<n.toNat+1:=λh=>e (ju.2 (c.2 h).2)
    omega
 exact h
theorem oy{p:Ω}{i:Int}{b:Ω}(h:eI p i b):b.length=tl p:=by
 unfold eI at h;obtain⟨c,d,rfl⟩:=h;have:=cX p;simp;omega
theorem inv258_0(p:Ω):eI p 0 (List.replicate (tl p) 0):=by unfold eI;simp
theorem wE{p:Ω}{i:Int}{b:Ω}(h:eI p i b)(d:i<tl p):eI p (i+1) (b.set i.toNat (p.getD i.toNat 0)):=by
 unfold eI at h⊢;obtain⟨e,j,c⟩:=h;have k:=cX p;refine⟨by omega,by omega,?_⟩;rw[c,kO (by omega),cG (by simp;omega),show(i+1).toNat=i.toNat+1 by omega,X4,J0,J4 (show i.toNat<p.length by omega),show tl p-(i.toNat+1)=tl p-i.toNat-1 by omega];simp only[K5,Y4,Jq,Xj]
theorem k258:aH prog WO:=av Yk hm func258 (by kernel_rfl) (by kernel_rfl) sP.ok (by kernel_rfl) (λa=>XU a) λa d=>by
 have h:S2 a:=by
  rw[<-L9];simp only[aA];generalize a=p at*
  try dsimp only at d
  have q:=jC d;have r:=cX p;simp[-List.getD_eq_getElem?_getD,d,cP d];rw[aO (n:=(tl p:Int)) (by omega) (by omega)];refine⟨λe=>Kr (by rw[bn];omega),λe=>⟨by omega,⟨inv258_0 p,by omega,λi j=>Bg _ i (by omega)⟩,λn l b=>⟨λk=>?_,λk=>?_⟩⟩⟩
  . have c:=oy b;have m:0<=n:=by unfold eI at b;exact b.1
    rw[aO (n:=n+1) (by omega) (by omega),uK c.symm];have:=wE b (by omega)
    and_intros<;>first|omega|assumption|exact jK (by simp) c.symm
  . have c:=oy b;have e:l=ae p:=by
     unfold eI at b;obtain⟨u,w,o⟩:=b;rw[o,show n.toNat=tl p by omega,dq];simp
    rw[e,bn];exact⟨by omega,λi j=>by simp⟩
 exact h
theorem jz(p:Ω):(dH p).length=p.length:=by unfold dH;simp
theorem yD{p:Ω}{i:Int}{b:Ω}(h:iG p i b):b.length=p.length:=by
 unfold iG at h;obtain⟨c,d,rfl⟩:=h;simp[jz];omega
theorem Pj(p:Ω):iG p 0 (List.replicate p.length 0):=by unfold iG dH;simp
theorem EL{p:Ω}{i:Int}{b:Ω}(h:iG p i b)(d:i<p.length):iG p (i+1) (b.set i.toNat (-(p.getD i.toNat 0))):=by
 unfold iG at h⊢;obtain⟨e,j,c⟩:=h;refine⟨by omega,by omega,?_⟩;rw[c,kO (by omega),cG (by rw[jz];simp;omega),show(i+1).toNat=i.toNat+1 by omega,X4,J0,J4 (show i.toNat<p.length by omega),show p.length-(i.toNat+1)=p.length-i.toNat-1 by omega];unfold dH;simp only[K5,Y4,Jq,Xj,Qx,J8,Z2]
theorem Zz:aH prog V7:=av k258 hm func290 (by kernel_rfl) (by kernel_rfl) sP.ok (by kernel_rfl) (λa=>a290 a) λa d=>by
 have h:TA a:=by
  rw[<-LM];simp only[aA];generalize a=p at*
  try dsimp only at d
  have q:=jC d;simp[-List.getD_eq_getElem?_getD,cP d];refine⟨by omega,⟨Pj p,λi j=>Bg _ i (by omega)⟩,λn l b=>⟨λk=>?_,λk=>?_⟩⟩
  . have c:=yD b;have m:0<=n:=by unfold iG at b;exact b.1
    rw[aO (n:=n+1) (by omega) (by omega),uK c.symm];have:=EL b (by omega)
    and_intros<;>first|omega|assumption|exact jK (by simp) c.symm
  . have c:=yD b;have e:l=dH p:=by
     unfold iG at b;obtain⟨r,u,o⟩:=b;rw[o,show n.toNat=p.length by omega];simp
    rw[<-e,c];exact⟨rfl,λi j=>by simp⟩
 exact h
theorem pX(p q:Ω)(n:Nat):(TL p q n).length=n:=by unfold TL;simp
theorem UD(p q:Ω)(n:Nat):TL p q (n+1)=TL p q n++[p.getD n 0+q.getD n 0]:=by
 unfold TL;rw[Q7,Qx];rfl
theorem QX{p q:Ω}{k n:Nat}(c:bj k p)(d:bj k q)(e:n<=1000):bj (k+1) (TL p q n):=by
 refine jd (by rw[pX];exact e) λz b=>?_
 unfold TL at b;obtain⟨i,_,rfl⟩:=Kh.1 b;have h:=bU c i;have j:=bU d i;rw[bD];omega
theorem yb{p q:Ω}{i:Int}{b:Ω}(h:fI p q i b):b.length=max (tl p) (tl q):=by
 unfold fI at h;obtain⟨c,d,rfl⟩:=h;simp[pX];omega
theorem OR(p q:Ω):fI p q 0 (List.replicate (max (tl p) (tl q)) 0):=by unfold fI TL;simp
theorem inv289_step{p q:Ω}{i:Int}{b:Ω}(h:fI p q i b)(d:i<(max (tl p) (tl q):Nat)):fI p q (i+1) (b.set i.toNat (p.getD i.toNat 0+q.getD i.toNat 0)):=by
 unfold fI at h⊢;obtain⟨e,j,c⟩:=h;refine⟨by omega,by omega,?_⟩;rw[c,kO (by omega),cG (by rw[pX]),show(i+1).toNat=i.toNat+1 by omega,UD,show max (tl p) (tl q)-(i.toNat+1)=max (tl p) (tl q)-i.toNat-1 by omega];simp
theorem UL:aH prog Uk:=av Zz hm func289 (by kernel_rfl) (by kernel_rfl) Hs.ok (by kernel_rfl) (λa=>YV a.1 a.2) λa d=>by
 have h:S4 a.1 a.2:=by
  rw[<-LN];simp only[aA];obtain⟨p,q⟩:=a
  try dsimp only at d
  have D:=jm d.1;have E:=jm d.2;have F:=cX p;have G:=cX q;have w:=bu d.1 (by omega);have x:=bu d.2 (by omega);have ff:cr (TL p q (max (tl p) (tl q))):=bu (k:=100001) (QX d.1 d.2 (by omega)) (by omega);simp[-List.getD_eq_getElem?_getD,w,x];rw[aO (n:=(tl p:Int)) (by omega) (by omega),aO (n:=(tl q:Int)) (by omega) (by omega),show(if(tl p:Int)<(tl q:Int)then(tl q:Int)else(tl p:Int))=((max (tl p) (tl q):Nat):Int) by split<;>omega]
  refine⟨by omega,⟨OR p q,by omega,λi y=>Bg _ i (by omega)⟩,λn l b=>⟨λz=>?_,λz=>?_⟩⟩
  . have c:=yb b;have A:0<=n:=by unfold fI at b;exact b.1
    have B:l.getD n.toNat 0=0:=by
     unfold fI at b;rw[b.2.2,J0,Jy (by rw[pX];omega),<-List.getD_eq_getElem?_getD];exact gR _ _
    have j:=inv289_step b (by omega);have o:(tl q:Int)<=n->q.getD n.toNat 0=0:=λh=>fK (by omega)
    have r:(tl p:Int)<=n->p.getD n.toNat 0=0:=λh=>fK (by omega)
    have f1:=cP w n.toNat;have f2:=cP x n.toNat;rw[aO (n:=n+1) (by omega) (by omega),NP c.symm,uK c.symm];refine⟨λu=>⟨by omega,by omega,by omega,λm=>?_,λm=>?_⟩,λu=>⟨λm=>?_,λm=>by omega⟩⟩
    . and_intros<;>first|omega|assumption|exact jK (by simp) c.symm
    . rw[o m,X6]at j
      and_intros<;>first|omega|assumption|exact jK (by simp) c.symm
    . rw[r u,Int.zero_add]at j;rw[B,Int.zero_add,uK c.symm]
      and_intros<;>first|omega|assumption|exact qs|exact jK (by simp) c.symm
  . have c:=yb b;have e:l=TL p q (max (tl p) (tl q)):=by
     unfold fI at b;obtain⟨u,m,C⟩:=b;rw[C,show n.toNat=max (tl p) (tl q) by omega];simp
    rw[lE (by omega),e];have:ae (TL p q (max (tl p) (tl q)))=dZ p q:=by unfold dZ;rfl
    rw[this];exact⟨by omega,ff,rfl,λi y=>by simp⟩
 exact h
abbrev TJ:Arg Ω:=zN (aF .i64)
def sIs:=iR.one TJ
def lR(c:Ω):Prop:=c.length<=1000/\∀z∈c,fN z
def dJ(p q:Ω):Ω:=dZ p (dH (ae q))
def mulC(p q:Ω)(j:Nat):Nat->Int
 |0=>0
 |i+1=>mulC p q j i+if i<=j then p.getD i 0*q.getD (j-i) 0 else 0
def pM(p q:Ω)(N i k:Nat):Ω:=(List.range N).map λj=>mulC p q j i+if i<=j/\j-i<k then p.getD i 0*q.getD (j-i) 0 else 0
def tu(p q:Ω)(N i:Nat):Ω:=(List.range N).map λj=>mulC p q j i
def bX(p q:Ω):Ω:=if tl p=0\/tl q=0 then []else ae (tu p q (tl p+tl q-1) (tl p))
def lW(p:Ω)(n:Nat):Ω:=(List.range n).map λ(j:Nat)=>p.getD (j+1) 0*((j:Int)+1)
def aX(p:Ω):Ω:=ae (lW p (tl p-1))
def iN(p:Ω):Ω:=if p.getD (p.length-1) 0<0 then dH p else p
def iE(c:Ω)(i:Int)(b:Ω):Prop:=0<=i/\i<=(c.length:Int)/\b=c.take i.toNat++List.replicate (c.length-i.toNat) 0
def gM(p q:Ω)(i:Int)(b:Ω):Prop:=0<=i/\i<=tl p/\b=tu p q (tl p+tl q-1) i.toNat
def dW(p q:Ω)(i k:Int)(b:Ω):Prop:=0<=i/\i<tl p/\0<=k/\k<=tl q/\b=pM p q (tl p+tl q-1) i.toNat k.toNat
def mH(p:Ω)(i:Int)(b:Ω):Prop:=1<=i/\(i<=tl p\/i=1)/\b=lW p (i-1).toNat
attribute [irreducible] lR dJ mulC pM tu bX lW aX iN iE gM dW mH
def QY:bB:=ow Hs.dec (λa=>bj 100000 a.1/\bj 100000 a.2) (λa=>pS (dJ a.1 a.2))
def VT:List (Nat×bB):=(229,QY)::Uk
def Sd(p:Ω)(q:Ω):Prop:=fQ Uk f229 [] [pS p,pS q] (pS (dJ p q))
def U6:bB:=ow sIs.dec (λa=>lR a) (λa=>pS (ae a))
def VC:List (Nat×bB):=(230,U6)::VT
def a230(c:Ω):List kM:=[⟨.unit,.list [.int .i64 (.tm 11),.iQ aj c.length 0 0],λ_ (x:Int×Ω)=>iE c x.1 x.2,λ_ (x:Int×Ω)=>(c.length-x.1).toNat⟩]
def Ti(c:Ω):Prop:=fQ VT f230 (a230 c) [TJ.enc c] (pS (ae c))
def QW:bB:=ow Hs.dec (λa=>bj 100000 a.1/\bj 100000 a.2/\a.1.length+a.2.length<=1000) (λa=>pS (bX a.1 a.2))
def VG:List (Nat×bB):=(292,QW)::VC
def XO(p:Ω)(q:Ω):List kM:=[⟨.unit,.list [.int .i64 (.tm 8),.iQ aj (tl p+tl q-1) 0 0],λ_ (x:Int×Ω)=>gM p q x.1 x.2,λ_ (x:Int×Ω)=>(tl p-x.1).toNat⟩,⟨.int .i64 (.tm 8),.list [.int .i64 (.tm 9),.iQ aj (tl p+tl q-1) 0 0],λ(i:Int)(x:Int×Ω)=>dW p q i x.1 x.2,λ(i:Int)(x:Int×Ω)=>(tl q-x.1).toNat⟩]
def SJ(p:Ω)(q:Ω):Prop:=fQ VC f292 (XO p q) [pS p,pS q] (pS (bX p q))
def c308:bB:=ow sP.dec (λa=>bj 100000 a) (λa=>pS (aX a))
def UF:List (Nat×bB):=(308,c308)::VG
def a308(p:Ω):List kM:=[⟨.unit,.list [.int .i64 (.tm 4),.ah aj 0 204 [.tm 3]],λ_ (x:Int×Ω)=>mH p x.1 x.2,λ_ (x:Int×Ω)=>(tl p-x.1).toNat⟩]
def Sp(p:Ω):Prop:=fQ VG f308 (a308 p) [pS p] (pS (aX p))
def c310:bB:=ow sP.dec (λa=>cr a) (λa=>pS (iN a))
def Wq:List (Nat×bB):=(310,c310)::UF
def Tq(p:Ω):Prop:=fQ UF f310 [] [pS p] (pS (iN p))
theorem MY(p:Ω)(q:Ω):(
 let g:=true=true
 let c:=aj
 let k:=λ(x:Ω)=>∀i,i<x.length->g/\c.ak (c.enc (x.getD i 0))
 let r:=λ(x:Ω)=>λi=>c.enc (x.getD i 0)
 let d:=λ(x:Ω)=>ah c x.length (r x)
 let e:=λ(x:Ω)=>(ae (d x)).length
 let s:=λ(x:Ω)(y:Nat)=>c.enc ((ae (d x)).getD (0+y) 0)
 let h:=λ(x:Ω)=>ah c (e x) λi=>s x i
 let o:=λ(x:Ω)(y:Nat)=>c.enc ((dH (h x)).getD y 0)
 let f:=λ(x:Ω)=>ah c (dH (h x)).length (o x)
 let j:=λ(x y:Ω)(u:Nat)=>dz ((dZ (d x) (f y)).getD u 0)
 ab 2 ((k q/\cr (d q))/\(0+e q<=e q/\∀i,i<e q->g)/\((∀i,i<e q->g/\c.ak ((λ(i:Nat)=>aj.enc ((ae (ah aj q.length
  λi=>aj.enc (q.getD i 0))).getD i 0)) (0+i)))/\cr (h q))/\ab 2 (((k p/\∀i,i<(dH (h q)).length->g/\c.ak (o q i))/\bj 100000 (d p)
  /\bj 100000 (f q))/\ab 2 (((dZ (d p) (f q)).length=(dJ p q).length/\∀i,i<(dZ (d p) (f q)).length->decide ((dZ (d p) (f q)).getD i
  0<0)=decide ((dJ p q).getD i 0<0)/\((j p q i).length=(dz ((dJ p q).getD i 0)).length/\∀(b:Nat),b<(j p q i).length->(j p q i).getD b
  0=(dz ((dJ p q).getD i 0)).getD b 0/\True)/\True)/\True))))=Sd p q:=by kernel_rfl
theorem LP(c:Ω):(
 let e:=λ(x:Ω)=>x.length
 let d:=λ(x:Ω)=>(↑(e x):Int)
 let f:=aj
 let t:=λ(m:Ω)=>ah f (e m) λx=>[SV.ff,SV.aq]
 let g:=λ(x:Ω)=>(d x).toNat
 let z:=λ(x:Ω)=>sm 0/\sm (g x)
 let h:=λ(x:Ω)(m:Nat)=>x.getD m 0
 let A:=λ(x:Ω)=>e x=e x/\∀i,i<e x->sm (h x i)/\True
 let B:=ab 12 True
 let p:=([]:List (Option (Nat×Nat)))
 let C:=2=f.n
 let k:=λ(x:Ω)(m:Int)=>x.getD m.toNat 0
 let u:=λ(x:Int)=>0+x.toNat
 let q:=λ(x:Nat)(m:Int)=>decide (x=u m)
 let r:=λ(x m:Ω)(F:Int)=>ah f (e x) λG=>af (q G F) (cE (f.enc (m.getD (u F) 0)) 0 (zc (k x F))) (f.enc (h m G))
 let D:=λ(x:Nat)(m:Int)(F H:Ω)=>if q x m=true then(dz (k F m)).length else(dz (h H x)).length
 let v:=aF IntKind.u32
 let w:=true=true
 let E:=λ(x:Ω)(m:Nat)=>f.enc (x.getD (0+m) 0)
 let y:=λ(x m:Ω)=>ah f (g x) λi=>E m i
 let o:=λ(x m:Ω)=>(ae (y x m)).length
 let s:=λ(x m:Ω)(F:Nat)=>(ae (y x m)).getD (0+F) 0
 True/\(d c=d c/\(0:Int)<=d c/\d c<=(9223372036854775807:Int)/\(32:Int)*d c<=(281474976710656:Int))/\ab (2:Nat) ((iE c (0:Int) (t c)
  /\ab (3:Nat) (z c/\ab (5:Nat) (A c/\d c=d c/\sm (0:Int)/\B))/\p=p/\((g c=e c/\C/\∀i,i<g c->decide ((t c).getD i (0:Int)<(0
  :Int))=false/\(dz ((t c).getD i (0:Int))).length=(0:Nat)/\True)/\True)/\True)/\∀(n:Int)(l:Ω),iE c n l->True/\(decide (n<d c)
  =true->((0:Int)<=n/\n<d c)/\ab (2:Nat) ((True/\fN (k c n))/\((0:Int)<=n/\n< ↑(g c))/\u n<e c/\ab (2:Nat) (iE c (W (n+(1:Int)))
  (r c l n)/\(d c-W (n+(1:Int))).toNat<(d c-n).toNat/\ab (3:Nat) (z c/\ab (5:Nat) (A c/\d c=d c/\sm (W (n+(1:Int)))/\B))/\p=p/\((e
  c=e c/\C/\∀i,i<e c->(if q i n=true then decide (k c n<(0:Int))else decide (h l i<(0:Int)))=decide ((r c l n).getD i (0:Int)<(0
  :Int))/\(D i n c l=(dz ((r c l n).getD i (0:Int))).length/\∀(b:Nat),b<D i n c l->bK (if q i n=true then v.enc ((dz (k c n)).getD b (0:Int))
  else v.enc ((dz (h l i)).getD b (0:Int))) (v.enc ((dz ((r c l n).getD i (0:Int))).getD b (0:Int))))/\True)/\True)/\True)))/\(decide (n<d c)=false
  ->((0:Nat)+g c<=e c/\∀i,i<e c->w)/\((∀i,i<g c->w/\f.ak ((λ(j:Nat)=>aj.enc (l.getD j (0:Int))) ((0:Nat)+i)))/\
  cr (y c l))/\True/\((0:Nat)+o c l<=o c l/\∀i,i<o c l->w)/\(o c l=(ae c).length/\∀i,i<o c l->decide (s c l i<(0:Int))
  =decide ((ae c).getD i (0:Int)<(0:Int))/\((dz (s c l i)).length=(dz ((ae c).getD i (0:Int))).length/\∀(b:Nat),b<(dz (s c l i)).length
  ->(dz (s c l i)).getD b (0:Int)=(dz ((ae c).getD i (0:Int))).getD b (0:Int)/\True)/\True)/\True)))=Ti c:=by kernel_rfl
theorem O0(p:Ω)(q:Ω):(
 let o:=λ(x:Ω)=>x.length
 let w:=true=true
 let c:=aj
 let y:=λ(x:Ω)(m:Nat)=>c.enc (x.getD m 0)
 let P:=λ(x:Ω)=>ah c (o x) (y x)
 let Q:=λ(x:Ω)=>(∀i,i<o x->w/\c.ak (y x i))/\cr (P x)
 let e:=λ(x:Ω)=>W (↑(tl (P x))-1+1)
 let z:=λ(x:Ω)=>e x==0
 let R:=λ(x m:Ω)=>(bX x m).length=0/\True
 let r:=λ(x m:Ω)=>W (W (e x+e m)-1)
 let d:=λ(x m:Ω)=>tl x+tl m-1
 let H:=λ(m X:Ω)=>ah c (d m X) λx=>[SV.ff,SV.aq]
 let J:=λ(x:Ω)(m:Nat)=>decide (x.getD m 0<0)
 let s:=λ(x:Ω)(m:Nat)=>(dz (x.getD m 0)).length
 let K:=λ(x:Ω)(m X:Nat)=>(dz (x.getD m 0)).getD X 0
 let f:=λ(x:Ω)=>o x=o x/\∀i,i<o x->sm (J x i)/\(sm (s x i)/\∀(Z:Nat),Z<s x i->sm (K x i Z)/\True)/\True
 let g:=λ(x:Ω)=>sm (e x)
 let k:=λ(x m:Ω)=>(r x m).toNat
 let A:=λ(x m:Ω)=>sm 0/\sm (k x m)
 let T:=sm (0:Int)
 let c0:=ab 51 True
 let c1:=([]:List (Option (Nat×Nat)))
 let L:=c1=c1
 let M:=c.n
 let c2:=2=M
 let t:=λ(x m X:Ω)=>ah c (d x m) (y X)
 let c3:=ab 50 True
 let c4:=λ(x m X:Ω)=>L/\((sm (d x m)/\M=M/\∀i,i<d x m->J X i=decide ((t x m X).getD i 0<0)/\(s X i=(dz ((t x m X).getD
  i 0)).length/\∀(Z:Nat),Z<s X i->K X i Z=(dz ((t x m X).getD i 0)).getD Z 0/\True)/\True)/\True)/\True
 let c5:=λ(x m:Int)(X y1:Ω)=>0<=W (x+m)/\W (x+m)< ↑(k X y1)
 let B:=λ(x m:Int)=>0+(W (x+m)).toNat
 let c6:=λ(x:Int)(m:Ω)=>0<=x/\x< ↑(o m)
 let c7:=λ(x:Ω)(m:Int)=>c.ak (zc (x.getD m.toNat 0))
 let h:=λ(x:Ω)(m:Int)=>zz (x.getD m.toNat 0)
 let C:=λ(x:Ω)(m X:Int)=>x.getD (B m X) 0
 let u:=λ(x:Int)=>W (x+1)
 let D:=λ(x:Nat)(m X:Int)=>decide (x=B m X)
 let E:=λ(x m X:Ω)(y1 u1:Int)=>zz (C x y1 u1)+zz (h m y1*h X u1)
 let F:=λ(x m X:Ω)(y1 u1:Int)=>ah c (d x m) λi'=>af (D i' y1 u1) (cE (c.enc (C X y1 u1)) 0 (zc (E X x m y1 u1))) (y X i')
 let c8:=λ(x:Ω)(m:Int)=>(↑(tl x)-u m).toNat<(↑(tl x)-m).toNat
 let c9:=λ(x:Nat)(m X:Int)(y1 u1 v1:Ω)=>if D x m X=true then(dz (E y1 u1 v1 m X)).length else s y1 x
 let N:=aF IntKind.u32
 let d0:=λ(x:Ω)(m:Nat)=>c.enc (x.getD (0+m) 0)
 let G:=λ(x m X:Ω)=>ah c (k x m) λi=>d0 X i
 let v:=λ(x m X:Ω)=>(ae (G x m X)).length
 let O:=λ(x m X:Ω)(y1:Nat)=>dz ((ae (G x m X)).getD (0+y1) 0)
 ab 2 (Q p/\True/\Q q/\True/\(z p=true->ab 3 (R p q))/\(z p=false->True/\(z q=true->ab 2 (R p q))/\(z q=false->(sm (r p q)/\0<=r p q/\r p
  q<=9223372036854775807/\32*r p q<=281474976710656)/\ab 2 ((gM p q 0 (H p q)/\(f p/\f q/\ab 3 (g p/\g q/\A p q/\T/\c0))/\L/\((k p q=d p q/\
  c2/\∀i,i<k p q->decide ((H p q).getD i 0<0)=false/\(dz ((H p q).getD i 0)).length=0/\True)/\True)/\True)/\∀(n:Int)(l:Ω),gM
  p q n l->True/\(decide (n<e p)=true->True/\(dW p q n 0 (t p q l)/\(f p/\f q/\ab 3 (g p/\g q/\A p q/\n=n/\T/\c3))/\c4 p q l)/\∀(b:Int)
  (l:Ω),dW p q n b l->True/\(decide (b<e q)=true->c5 n b p q/\B n b<d p q/\c6 n p/\c6 b q/\ab 2 (((c7 p n/\c7 q b)/\fit
  (h p n)/\fit (h q b))/\ab 2 (((c.ak (zc (C l n b))/\c.ak (zc (h p n*h q b)))/\fit (zz (C l n b))/\fit (zz (h p n*h q b)))/\c5 n b p q
  /\B n b<d p q/\ru true/\True/\dW p q n (u b) (F p q l n b)/\c8 q b/\(f p/\f q/\ab 3 (g p/\g q/\A p q/\n=n/\sm (u b)/\c3))/\L/\
  ((sm (d p q)/\c2/\∀i,i<d p q->(if D i n b=true then decide (E l p q n b<0)else J l i)=decide ((F p q l n b).getD i 0<0)/\(c9 i n b
  l p q=(dz ((F p q l n b).getD i 0)).length/\∀(Z:Nat),Z<c9 i n b l p q->bK (if D i n b=true then N.enc ((dz (E l p q n b)).getD Z 0)else
  N.enc (K l i Z)) (N.enc ((dz ((F p q l n b).getD i 0)).getD Z 0)))/\True)/\True)/\True)))/\(decide (b<e q)=false->True/\gM p q (u n) (t p q
  l)/\c8 p n/\(f p/\f q/\ab 3 (g p/\g q/\A p q/\sm (u n)/\c0))/\c4 p q l))/\(decide (n<e p)=false->(0+k p q<=d p q/\∀i,i<d p q->w)
  /\((∀i,i<k p q->w/\c.ak ((λ(j:Nat)=>aj.enc (l.getD j 0)) (0+i)))/\cr (G p q l))/\True/\(0+v p q l<=v p q l/\∀i,i<
  v p q l->w)/\(v p q l=(bX p q).length/\∀i,i<v p q l->decide ((ae (G p q l)).getD (0+i) 0<0)=decide ((bX p q).getD i 0<0)/\((O
  p q l i).length=(dz ((bX p q).getD i 0)).length/\∀(Z:Nat),Z<(O p q l i).length->(O p q l i).getD Z 0=(dz ((bX p q).getD i 0)).getD Z
  0/\True)/\True)/\True))))))=SJ p q:=by kernel_rfl
theorem Pm(p:Ω):(
 let c:=λ(m:Ω)=>m.length
 let x:=λ(m:Ω)(F:Nat)=>decide (m.getD F 0<0)
 let s:=λ(m:Ω)(F:Nat)=>(dz (m.getD F 0)).length
 let y:=λ(m:Ω)=>c m=c m/\∀i,i<c m->sm (x m i)/\(sm (s m i)/\∀(b:Nat),b<s m i->sm ((dz (m.getD i 0)).getD b 0)/\True)
  /\True
 let g:=sm 0
 let z:=ab 18 True
 let d:=aj
 let t:=d.n
 let h:=true=true
 let u:=λ(m:Ω)(F:Nat)=>d.enc (m.getD F 0)
 let A:=λ(m:Ω)=>ah d (c m) (u m)
 let B:=λ(m:Int)(F:Ω)=>decide (m<= ↑(tl (A F))-1)
 let e:=λ(m:Ω)=>c m+1
 let o:=λ(m:Nat)(F:Ω)=>decide (m<c F)
 let q:=λ(m:Ω)(F:Int)=>zz (m.getD F.toNat 0)*zz F
 let f:=λ(m F:Ω)(G:Int)=>ah d (e m) λj=>af (o j m) (u m j) (zc (q F G))
 let C:=([]:List (Option (Nat×Nat)))
 let D:=λ(m:Nat)(F G:Ω)(H:Int)=>if o m F=true then s F m else(dz (q G H)).length
 let v:=aF IntKind.u32
 let E:=λ(m:Ω)(F:Nat)=>d.enc (m.getD (0+F) 0)
 let w:=λ(m:Ω)=>ah d (c m) λi=>E m i
 let k:=λ(m:Ω)=>(ae (w m)).length
 let r:=λ(m:Ω)(F:Nat)=>(ae (w m)).getD (0+F) 0
 ab (3:Nat) ((mH p (1:Int) []/\(y p/\ab (2:Nat) ((g/\g)/\sm (1:Int)/\z))/\g/\t=t/\True)/\∀(n:Int)(l:Ω),mH p n l->True
  /\((∀i,i<c p->h/\d.ak (u p i))/\cr (A p))/\True/\(B n p=true->((0:Int)<=n/\n< ↑(c p))/\True/\(True/\fN n)/\ab (2:Nat) (((d.ak
  (zc (p.getD n.toNat (0:Int)))/\d.ak (zc n))/\fit (zz (p.getD n.toNat (0:Int)))/\fit (zz n))/\(1:Nat)<=(1:Nat)/\(∀(j:Nat),j<(1:Nat)->h)/\
  (g/\c l=c l/\e l<=(140737488355328:Nat)/\e l*(32:Nat)<=(140737488355328:Nat))/\ru true/\True/\mH p (W (n+(1:Int))) (f l p n)/\(↑(tl p)
  -W (n+(1:Int))).toNat<(↑(tl p)-n).toNat/\(y p/\ab (2:Nat) ((g/\e l=(f l p n).length)/\sm (W (n+(1:Int)))/\z))/\C=C/\((e l=(f l p n).length
  /\(2:Nat)=t/\∀i,i<e l->(if o i l=true then x l i else decide (q p n<(0:Int)))=decide ((f l p n).getD i (0:Int)<(0:Int))/\(D i l
  p n=(dz ((f l p n).getD i (0:Int))).length/\∀(b:Nat),b<D i l p n->bK (if o i l=true then v.enc ((dz (l.getD i (0:Int))).getD b (0:Int))
  else v.enc ((dz (q p n)).getD b (0:Int))) (v.enc ((dz ((f l p n).getD i (0:Int))).getD b (0:Int))))/\True)/\True)/\True))/\(B n p=false->((0:Nat)
  +c l<=c l/\∀i,i<c l->h)/\((∀i,i<c l->h/\d.ak ((λ(j:Nat)=>aj.enc (l.getD j (0:Int))) ((0:Nat)+i)))/\cr (w l))/\
  True/\((0:Nat)+k l<=k l/\∀i,i<k l->h)/\(k l=(aX p).length/\∀i,i<k l->decide (r l i<(0:Int))=decide ((aX p).getD i
  (0:Int)<(0:Int))/\((dz (r l i)).length=(dz ((aX p).getD i (0:Int))).length/\∀(b:Nat),b<(dz (r l i)).length->(dz (r l i)).getD b (0:Int)
  =(dz ((aX p).getD i (0:Int))).getD b (0:Int)/\True)/\True)/\True)))=Sp p:=by kernel_rfl
theorem Lr(p:Ω):(
 let e:=λ(x:Ω)=>(↑x.length:Int)
 let j:=λ(x:Ω)=>decide (e x>0)
 let f:=λ(x:Ω)=>W (e x-1)
 let c:=aj
 let g:=λ(x:Ω)=>x.getD (f x).toNat 0
 let k:=λ(x:Ω)=>decide (aW (zz (g x))<0)
 let t:=λ(x:Ω)=>λi=>c.enc (x.getD i 0)
 let d:=λ(x:Ω)=>ah c x.length (t x)
 let o:=λ(x:Ω)(y:Nat)=>decide ((iN x).getD y 0<0)
 let h:=λ(x:Ω)(y:Nat)=>dz ((dH (d x)).getD y 0)
 let q:=λ(x:Ω)(y:Nat)=>(dz ((iN x).getD y 0)).length
 let r:=λ(x:Ω)(y u:Nat)=>(dz ((iN x).getD y 0)).getD u 0
 let s:=λ(x:Ω)=>(x.length=(iN x).length/\∀i,i<x.length->decide (x.getD i 0<0)=o x i/\((dz (x.getD i 0)).length=q x i/\∀
  (b:Nat),b<(dz (x.getD i 0)).length->(dz (x.getD i 0)).getD b 0=r x i b/\True)/\True)/\True
 ab 2 ((j p=true->(0<=f p/\f p<e p)/\True/\(c.ak (zc (g p))/\fit (zz (g p)))/\True/\(k p=true->True/\((∀i,i<p.length->true=true
  /\c.ak (c.enc (p.getD i 0)))/\cr (d p))/\ab 2 (((dH (d p)).length=(iN p).length/\∀i,i<(dH (d p)).length->decide ((dH (d p)).getD i
  0<0)=o p i/\((h p i).length=q p i/\∀(b:Nat),b<(h p i).length->(h p i).getD b 0=r p i b/\True)/\True)/\True))/\(k p=false->ab 2 (s
  p)))/\(j p=false->ab 3 (s p))))=Tq p:=by kernel_rfl
theorem Nb{c:Ω}(h:lR c):c.length<=1000:=by unfold lR at h;exact h.1
theorem Hi:fN 0:=by unfold fN;omega
theorem OM{c:Ω}(h:lR c)(i:Nat):fN (c.getD i 0):=by unfold lR at h;exact uG Hi h.2 i
theorem Nm{z:Int}(h:fN z):(z.natAbs:Int)<pw 2:=by
 have:=Nt h;have b:pw 2=18446744073709551616:=by rw[fE];rfl
 omega
theorem wZ{c:Ω}(h:lR c):bj 2 c:=by unfold lR at h;exact jd h.1 λz b=>Nm (h.2 z b)
theorem fZ{k:Nat}{p:Ω}(h:bj k p):bj k (ae p):=by
 unfold bj at*
 refine⟨by rw[bn];have:=cX p;omega,λz b=>h.2 z ?_⟩;rw[dq]at b;exact Zg b
theorem Df{k:Nat}{p:Ω}(h:bj k p):bj k (dH p):=by
 unfold bj at*
 refine⟨by rw[jz];exact h.1,λz b=>?_⟩;unfold dH at b;obtain⟨x,c,rfl⟩:=Kh.1 b;have:=h.2 x c;omega
theorem Aw{p:Ω}(h:cr p):cr (ae p):=by
 unfold cr at*
 refine⟨by rw[bn];have:=cX p;omega,λz b=>h.2 z ?_⟩;rw[dq]at b;exact Zg b
theorem nr{l m:Ω}(h:l=m):l.length=m.length/\∀i,i<l.length->(l.getD i 0<0↔m.getD i 0<0)/\(dz (l.getD i 0)).length=(dz (m.getD i 0)).length/\∀j:Nat,j<(dz (l.getD i 0)).length->(dz (l.getD i 0)).getD j 0=(dz (m.getD i 0)).getD j 0:=by
 subst h;exact⟨rfl,λ_ _=>⟨J9,rfl,λ_ _=>rfl⟩⟩
theorem wy(l:Ω)(n:Nat):∀i,i<n->(l.getD i 0<0↔l.getD i 0<0)/\(dz (l.getD i 0)).length=(dz (l.getD i 0)).length/\∀j:Nat,j<(dz (l.getD i 0)).length->(dz (l.getD i 0)).getD j 0=(dz (l.getD i 0)).getD j 0:=λ_ _=>⟨J9,rfl,λ_ _=>rfl⟩
theorem pushZ(l:Ω)(v:Int):ah aj (l.length+1) (λj=>af (decide (j<l.length)) (aj.enc (l.getD j 0)) (zc v))=l++[v]:=vQ (Ia v)
theorem Zu{l:Ω}{v:Int}:∀i,i<l.length+1->
 (if i<l.length then decide (l.getD i 0<0)else decide (v<0))=decide ((l++[v]).getD i 0<0)/\(if i<l.length then(dz (l.getD i 0)).length else(dz v).length)=(dz ((l++[v]).getD i 0)).length/\
  ∀j:Nat,(j<if i<l.length then(dz (l.getD i 0)).length else(dz v).length)->bK (if i<l.length then [SV.int .u32 ((dz (l.getD i 0)).getD j 0)]else [SV.int .u32 ((dz v).getD j 0)]) [SV.int .u32 ((dz ((l++[v]).getD i 0)).getD j 0)]:=by
 intro i b;rw[xA b];have le:∀x:Int,bK [SV.int .u32 x] [SV.int .u32 x]:=λx=>⟨vX rfl,trivial⟩
 by_cases h:i<l.length
 . rw[JB h,JB h,JB h];exact⟨rfl,rfl,λj _=>by rw[JB h];exact le _⟩
 . rw[JA h,JA h,JA h];exact⟨rfl,rfl,λj _=>by rw[JA h];exact le _⟩
theorem rk(p q:Ω)(j:Nat):mulC p q j 0=0:=by unfold mulC;rfl
theorem Mo(p q:Ω)(j i:Nat):mulC p q j (i+1)=mulC p q j i+if i<=j then p.getD i 0*q.getD (j-i) 0 else 0:=by rw[mulC]
theorem bQ{x y a b:Int}(c:(x.natAbs:Int)<a)(d:(y.natAbs:Int)<b):((x*y).natAbs:Int)<=a*b:=by
 rw[JO,Int.natCast_mul];exact Qb (by omega) (by omega) (by omega) (by omega)
theorem C9{p q:Ω}{k:Nat}(b:bj k p)(c:bj k q)(i j:Nat):((p.getD i 0*q.getD j 0).natAbs:Int)<=pw (k+k):=by
 rw[gG];exact bQ (bU b i) (bU c j)
theorem I9{p q:Ω}{k:Nat}(b:bj k p)(c:bj k q)(j i:Nat):((mulC p q j i).natAbs:Int)<=i*pw (k+k):=by
 induction i with
 |zero=>rw[rk];simp
 |succ i d=>
  rw[Mo];have h:=C9 b c i (j-i);have e:((i+1:Nat):Int)*pw (k+k)=i*pw (k+k)+pw (k+k):=by rw[Int.natCast_add,Qo];simp
  have m:=bN (k+k);rw[e];split<;>omega
theorem qu(p q:Ω)(N i k:Nat):(pM p q N i k).length=N:=by unfold pM;simp
theorem xm(p q:Ω)(N i:Nat):(tu p q N i).length=N:=by unfold tu;simp
theorem Bu(p q:Ω){N i k j:Nat}(h:j<N):(pM p q N i k).getD j 0=mulC p q j i+if i<=j/\j-i<k then p.getD i 0*q.getD (j-i) 0 else 0:=by
 unfold pM;rw[J0,J5,Q9 h];rfl
theorem mulI_zero(p q:Ω)(N i:Nat):pM p q N i 0=tu p q N i:=by
 unfold pM tu;refine Xl λj _=>?_
 simp
theorem O7(p q:Ω)(N i:Nat):pM p q N i (tl q)=tu p q N (i+1):=by
 unfold pM tu;refine Xl λj _=>?_
 rw[Mo]
 congr 1
 by_cases b:i<=j
 . by_cases c:j-i<tl q
   . rw[JB ⟨b,c⟩,JB b]
   . rw[JA (λh=>c h.2),JB b,fK (Nat.le_of_not_lt c)];simp
 . rw[JA (λh=>b h.1),JA b]
theorem Lc{p q:Ω}{N i k:Nat}(h:i+k<N):(pM p q N i k).set (i+k) ((pM p q N i k).getD (i+k) 0+p.getD i 0*q.getD k 0)=pM p q N i (k+1):=by
 apply Xc;intro j
 by_cases c:j<N
 . rw[K6];have e:(pM p q N i (k+1))[j]?=some (mulC p q j i+if i<=j/\j-i<k+1 then p.getD i 0*q.getD (j-i) 0 else 0):=by
    unfold pM;rw[J5,Q9 c];rfl
   have m:(pM p q N i k)[j]?=some (mulC p q j i+if i<=j/\j-i<k then p.getD i 0*q.getD (j-i) 0 else 0):=by
    unfold pM;rw[J5,Q9 c];rfl
   rw[e,m]
   by_cases b:i+k=j
   . subst b;rw[JB rfl,JB (by rw[qu];exact c),Bu _ _ c,JA (by omega),JB (by omega),show i+k-i=k by omega];simp
   . rw[JA b]
     congr 2
     by_cases d:i<=j/\j-i<k
     . rw[JB d,JB (by omega)]
     . rw[JA d,JA (by omega)]
 . rw[J7 (by rw[Ks,qu];omega),J7 (by rw[qu];omega)]
theorem Uc:aH prog VT:=av UL hm func229 (by kernel_rfl) (by kernel_rfl) Hs.ok (by kernel_rfl) (λ_=>[]) λa b=>by
 have h:Sd a.1 a.2:=by
  rw[<-MY];simp only[aA];obtain⟨p,q⟩:=a
  try dsimp only at b
  have c:=bu b.2 (by omega);have d:=Df (fZ b.2);simp[-List.getD_eq_getElem?_getD,b,c,Aw c,d];exact nr (by unfold dJ;rfl)
 exact h
theorem yJ{p:Ω}{i:Int}{b:Ω}(h:iE p i b):b.length=p.length:=by
 unfold iE at h;obtain⟨c,d,rfl⟩:=h;simp;omega
theorem MP(p:Ω):iE p 0 (List.replicate p.length 0):=by unfold iE;simp
theorem inv230_step{p:Ω}{i:Int}{b:Ω}(h:iE p i b)(d:i<p.length):iE p (i+1) (b.set i.toNat (p.getD i.toNat 0)):=by
 unfold iE at h⊢;obtain⟨e,j,c⟩:=h;refine⟨by omega,by omega,?_⟩;rw[c,kO (by omega),cG (by simp;omega),show(i+1).toNat=i.toNat+1 by omega,X4,J0,J4 (show i.toNat<p.length by omega),show p.length-(i.toNat+1)=p.length-i.toNat-1 by omega];simp only[K5,Y4,Jq,Xj]
theorem k230:aH prog VC:=av Uc hm func230 (by kernel_rfl) (by kernel_rfl) sIs.ok (by kernel_rfl) (λa=>a230 a) λa j=>by
 have h:Ti a:=by
  rw[<-LP];simp only[aA];generalize a=c at*
  try dsimp only at j
  have p:=Nb j;simp[-List.getD_eq_getElem?_getD,OM j];refine⟨by omega,⟨MP c,λi q=>Bg _ i (by omega)⟩,λn l b=>⟨λk=>?_,λk=>?_⟩⟩
  . have d:=yJ b;have m:0<=n:=by unfold iE at b;exact b.1
    rw[aO (n:=n+1) (by omega) (by omega),uK d.symm];have:=inv230_step b (by omega)
    and_intros<;>first|omega|assumption|exact jK (by simp) d.symm
  . have d:=yJ b;have e:l=c:=by
     unfold iE at b;obtain⟨r,u,o⟩:=b;rw[o,show n.toNat=c.length by omega];simp
    rw[lE (by omega),e];exact⟨bu (wZ j) (by omega),nr rfl⟩
 exact h
theorem zR{p q:Ω}{i:Int}{b:Ω}(h:gM p q i b):b.length=tl p+tl q-1:=by
 unfold gM at h;rw[h.2.2,xm]
theorem wA{p q:Ω}{i k:Int}{b:Ω}(h:dW p q i k b):b.length=tl p+tl q-1:=by
 unfold dW at h;rw[h.2.2.2.2,qu]
theorem Mk(p q:Ω):gM p q 0 (List.replicate (tl p+tl q-1) 0):=by
 unfold gM;refine⟨by omega,by omega,?_⟩;unfold tu;simp only[Ql,rk,List.map_const',Zd]
theorem inv292_in{p q:Ω}{i:Int}{b:Ω}(h:gM p q i b)(c:i<tl p):dW p q i 0 b:=by
 unfold gM at h;unfold dW;exact⟨h.1,c,by omega,by omega,by rw[h.2.2];exact(mulI_zero _ _ _ _).symm⟩
theorem GY{p q:Ω}{i k:Int}{b:Ω}(h:dW p q i k b)(d:(tl q:Int)<=k):gM p q (i+1) b:=by
 unfold dW at h;unfold gM;obtain⟨e,j,m,o,c⟩:=h;exact⟨by omega,by omega,by rw[c,show k.toNat=tl q by omega,O7,show(i+1).toNat=i.toNat+1 by omega]⟩
theorem Hg{p q:Ω}{i:Int}{b:Ω}(h:gM p q i b)(c:(tl p:Int)<=i):b=tu p q (tl p+tl q-1) (tl p):=by
 unfold gM at h;rw[h.2.2,show i.toNat=tl p by omega]
theorem Cp{p q:Ω}{i k:Int}{b:Ω}(h:dW p q i k b)(j:k<tl q):dW p q i (k+1) (b.set (i+k).toNat (b.getD (i+k).toNat 0+p.getD i.toNat 0*q.getD k.toNat 0)):=by
 unfold dW at h⊢;obtain⟨c,d,m,o,e⟩:=h;refine⟨c,d,by omega,by omega,?_⟩;rw[e,show(i+k).toNat=i.toNat+k.toNat by omega,Lc (by omega),show(k+1).toNat=k.toNat+1 by omega]
theorem Hu{p q:Ω}{i k:Int}{b:Ω}(c:bj 100000 p)(d:bj 100000 q)(h:dW p q i k b)(j:Nat):((b.getD j 0).natAbs:Int)<pw 200001:=by
 have u:=jm c;have w:=cX p;have x:=bN 200000;unfold dW at h;obtain⟨y,z,A,B,e⟩:=h
 by_cases m:j<tl p+tl q-1
 . rw[e,Bu _ _ m];have o:=I9 c d j i.toNat;rw[show(100000+100000:Nat)=200000 from rfl]at o;have C:(i.toNat:Int)*pw 200000<=1000*pw 200000:=Jh (by omega) (by omega);have r:=C9 c d i.toNat (j-i.toNat);rw[show(100000+100000:Nat)=200000 from rfl]at r;rw[bD];split<;>omega
 . rw[e,J0,J7 (by rw[qu];omega)];have:=bN 200001;simpa
theorem WJ:aH prog VG:=av k230 hm func292 (by kernel_rfl) (by kernel_rfl) Hs.ok (by kernel_rfl) (λa=>XO a.1 a.2) λa m=>by
 have h:SJ a.1 a.2:=by
  rw[<-O0];simp only[aA];obtain⟨p,q⟩:=a
  try dsimp only at m
  obtain⟨u,w,D⟩:=m;have m:bj 100000 p/\bj 100000 q:=⟨u,w⟩;have L:=jm m.1;have M:=jm m.2;have N:=cX p;have O:=cX q;have A:=bu m.1 (by omega);have B:=bu m.2 (by omega);have x:(100000+100000:Nat)=200000:=rfl;simp[-List.getD_eq_getElem?_getD,A,B,cP A,cP B];rw[aO (n:=(tl p:Int)) (by omega) (by omega),aO (n:=(tl q:Int)) (by omega) (by omega),aO (n:=(tl p:Int)+tl q) (by omega) (by omega),aO (n:=(tl p:Int)+tl q-1) (by omega) (by omega)]
  refine⟨λh=>by unfold bX;rw[JB (.inl (by omega))],λR=>⟨λh=>by unfold bX;rw[JB (.inr (by omega))],λX=>⟨by omega,⟨Mk p q,by omega,λi r=>Bg _ i (by omega)⟩,λi l c=>⟨λr=>?_,λr=>?_⟩⟩⟩⟩
  . have o:=zR c;have E:0<=i:=by unfold gM at c;exact c.1
    rw[lE o.symm];refine⟨⟨inv292_in c r,wy _ _⟩,λk F b=>⟨λy=>?_,λy=>?_⟩⟩
    . have d:=wA b;have G:0<=k:=by unfold dW at b;exact b.2.2.1
      rw[aO (n:=i+k) (by omega) (by omega),aO (n:=k+1) (by omega) (by omega),uK d.symm];have H:=Cp b y;have f3:fit (F.getD (i+k).toNat 0):=fX (Hu m.1 m.2 b _) (by omega);have f4:fit (p.getD i.toNat 0*q.getD k.toNat 0):=fX (k:=200001) (by have J:=C9 m.1 m.2 i.toNat k.toNat;rw[x]at J;have:=bN 200000;rw[bD];omega) (by omega)
      and_intros<;>first|omega|assumption|exact jK (by simp) d.symm
    . have d:=wA b;rw[aO (n:=i+1) (by omega) (by omega),lE d.symm];have:=GY b y
      and_intros<;>first|omega|assumption|exact wy _ _
  . have o:=zR c;have e:=Hg c r;rw[lE (by omega)];have x:ae l=bX p q:=by unfold bX;rw[JA (by omega),e]
    rw[x];refine⟨by omega,bu (k:=200001) ?_ (by omega),nr rfl⟩;rw[e];refine jd (by rw[xm];omega) λz C=>?_
    unfold tu at C;obtain⟨j,_,rfl⟩:=Kh.1 C;have K:=I9 m.1 m.2 j (tl p);rw[show(100000+100000:Nat)=200000 from rfl]at K;have Z:(tl p:Int)*pw 200000<=1000*pw 200000:=Jh (by omega) (by have:=bN 200000;omega);rw[bD];have:=bN 200000;omega
 exact h
theorem Cr{p:Ω}{k n:Nat}(e:bj k p)(h:n<=1000):bj (k+1) (lW p n):=by
 refine jd (by unfold lW;simp;exact h) λz c=>?_
 unfold lW at c;obtain⟨j,d,rfl⟩:=Kh.1 c;have d:=Kn.1 d;have i:=bU e (j+1);have m:=bQ (y:=(j:Int)+1) (b:=1001) i (by omega);rw[bD];have:=bN k;omega
theorem YJ:aH prog UF:=av WJ hm func308 (by kernel_rfl) (by kernel_rfl) sP.ok (by kernel_rfl) (λa=>a308 a) λa c=>by
 have h:Sp a:=by
  rw[<-Pm];simp only[aA];generalize a=p at*
  try dsimp only at c
  have x:=jm c;have y:=cX p;have j:=bu c (by omega);simp[-List.getD_eq_getElem?_getD,j,cP j];refine⟨by unfold mH lW;simp,λn l b=>⟨λk=>?_,λk=>?_⟩⟩
  . have i:=b;unfold mH at b;obtain⟨m,o,d⟩:=b;have q:l.length=(n-1).toNat:=by rw[d];unfold lW;simp
    have r:fN n:=by unfold fN;omega
    have z:fit n:=fX (Nm r) (by omega);rw[aO (n:=n+1) (by omega) (by omega),pushZ];have u:mH p (n+1) (l++[p.getD n.toNat 0*n]):=by
     unfold mH;refine⟨by omega,by omega,?_⟩;rw[d,show(n+1-1).toNat=(n-1).toNat+1 by omega];unfold lW;rw[Q7,Qx];simp only[J8,Z2];rw[show(n-1).toNat+1=n.toNat by omega,show((n-1).toNat:Int)+1=n by omega]
    and_intros<;>first|omega|assumption|exact Zu
  . have e:l=lW p (tl p-1):=by
     unfold mH at b;obtain⟨m,o,d⟩:=b;rw[d];congr 1;omega
    have w:ae l=aX p:=by unfold aX;rw[e]
    rw[w,e];exact⟨bu (Cr c (by omega)) (by omega),nr rfl⟩
 exact h
theorem YY:aH prog Wq:=av YJ hm func310 (by kernel_rfl) (by kernel_rfl) sP.ok (by kernel_rfl) (λ_=>[]) λa c=>by
 have h:Tq a:=by
  rw[<-Lr];simp only[aA];generalize a=p at*
  try dsimp only at c
  have d:=jC c;simp[-List.getD_eq_getElem?_getD,c,cP c];refine⟨λh=>?_,λh=>?_⟩
  . rw[aO (by omega) (by omega),show((p.length:Int)-1).toNat=p.length-1 by omega];refine⟨by omega,λb=>?_,λb=>?_⟩
    . exact nr (by unfold iN;rw[JB];unfold aW at b;split at b;assumption;split at b<;>omega)
    . exact nr (by unfold iN;rw[JA];unfold aW at b;split at b;omega;assumption)
  . subst h;exact nr (by unfold iN;simp)
 exact h
def lu:Ω->Nat
 |[]=>0
 |x::r=>Nat.gcd (lu r) x.natAbs
def iD(p:Ω):Int:=(lu p:Int)
def ag(p:Ω):Ω:=if 1<iD (ae p)then(ae p).map λz=>z.tdiv (iD (ae p))else ae p
def pQ(p:Ω)(i g:Int):Prop:= -1<=i/\i<p.length/\g=(lu (p.drop (i+1).toNat):Int)
def ij(p:Ω)(i:Int)(b:Ω):Prop:=0<=i/\i<=(ae p).length/\b=((ae p).take i.toNat).map (λz=>z.tdiv (iD (ae p)))++(ae p).drop i.toNat
attribute [irreducible] lu iD ag pQ ij
def c361:bB:=ow sP.dec (λa=>cr a) (λa=>zS (iD a))
def Wx:List (Nat×bB):=(361,c361)::Wq
def XJ(p:Ω):List kM:=[⟨.unit,.list [.int .i64 (.tm 4),.cod aj 1 0],λ_ (x:Int×Int)=>pQ p x.1 x.2,λ_ (x:Int×Int)=>(x.1+1).toNat⟩]
def SG(p:Ω):Prop:=fQ Wq f361 (XJ p) [pS p] (zS (iD p))
def c307:bB:=ow sP.dec (λa=>cr a) (λa=>frP (ag a))
def WR:List (Nat×bB):=(307,c307)::Wx
def a307(p:Ω):List kM:=[⟨.unit,.list [.int .i64 (.tm 15),.iQ aj (ae p).length 0 0],λ_ (x:Int×Ω)=>ij p x.1 x.2,λ_ (x:Int×Ω)=>((ae p).length-x.1).toNat⟩]
def S7(p:Ω):Prop:=fQ Wx f307 (a307 p) [pS p] (frP (ag p))
theorem P1(p:Ω):(
 let e:=λ(x:Ω)=>(↑x.length:Int)
 let f:=λ(x:Ω)=>x.length=x.length/\∀i,i<x.length->sm (decide (x.getD i 0<0))/\(sm (dz (x.getD i 0)).length/\∀(b:Nat),b
  <(dz (x.getD i 0)).length->sm ((dz (x.getD i 0)).getD b 0)/\True)/\True
 let g:=ab 19 True
 let h:=List.map ar.shape ([ar.s SV.ff]++([ar.s SV.aq]++[]))
 let d:=h=h
 let j:=ab 2 True
 let k:=λ(x:Int)=>decide (x>=0)
 let o:=λ(x:Int)=>bl (zz x) !=1
 let c:=λ(x y:Int)(u:Ω)=>(↑((zz x).gcd (zz (u.getD y.toNat 0))):Int)
 let q:=λ(x:Int)(y:Ω)=>(decide (x<0)=decide (iD y<0)/\((dz x).length=(dz (iD y)).length/\∀i,i<(dz x).length->(dz x).getD
  i 0=(dz (iD y)).getD i 0/\True)/\True)/\True
 ab 3 ((pQ p (W (e p-1)) 0/\(f p/\ab 3 (sm (W (e p-1))/\g))/\d/\j/\d/\(false=false/\sm 0/\True)/\True)/\∀(n a:Int),pQ p n a->(k n
  =true->True/\(aj.ak (zc a)/\fit (zz a))/\True/\(o a=true->(0<=n/\n<e p)/\ab 2 (((aj.ak (zc a)/\aj.ak (zc (p.getD n.toNat 0)))/\fit (zz
  a)/\fit (zz (p.getD n.toNat 0)))/\ru true/\True/\pQ p (W (n-1)) (zz (c a n p))/\(W (n-1)+1).toNat<(n+1).toNat/\(f p/\ab 3 (sm (W (n-1))
  /\g))/\d/\j/\d/\(decide (c a n p<0)=decide (zz (c a n p)<0)/\((dz (c a n p)).length=(dz (zz (c a n p))).length/\∀i,i<(dz (c a n p)).length
  ->(dz (c a n p)).getD i 0=(dz (zz (c a n p))).getD i 0/\True)/\True)/\True))/\(o a=false->ab 2 (q a p)))/\(k n=false->ab 3 (q a p))))=SG p:=by kernel_rfl
theorem Of(p:Ω):(
 let k:=true=true
 let d:=aj
 let B:=λ(m:Ω)(s:Nat)=>d.enc (m.getD s 0)
 let h:=λ(m:Ω)=>ah d m.length (B m)
 let c:=λ(m:Ω)=>(ae (h m)).length
 let E:=λ(m:Ω)=>0+c m<=c m
 let F:=λ(m:Ω)(s:Nat)=>(λ(i:Nat)=>aj.enc ((ae (ah aj m.length λi=>aj.enc (m.getD i 0))).getD i 0)) (0+s)
 let c1:=λ(m:Ω)(s:Nat)=>d.enc ((ae (h m)).getD (0+s) 0)
 let G:=λ(m:Ω)=>ah d (c m) λi=>c1 m i
 let f:=λ(m:Ω)=>iD (G m)
 let q:=aF IntKind.u32
 let H:=λ(m:Ω)=>d.ak (zc (f m))
 let o:=λ(m:Ω)=>zz (f m)
 let J:=λ(m:Ω)=>decide (bl (o m)>1)
 let e:=λ(m:Ω)=>(ae m).length
 let c2:=λ(m:Ω)(s:Nat)=>d.enc ((ae (h m)).getD s 0)
 let r:=λ(m:Ω)=>ah d (e m) λi=>c2 m i
 let t:=sm 0
 let g:=λ(m:Ω)=>(↑(c m):Int)
 let K:=ab 16 True
 let u:=([]:List (Option (Nat×Nat)))
 let L:=2=d.n
 let M:=λ(m:Ω)(s:Nat)=>decide ((ae (h m)).getD s 0<0)
 let C:=λ(m:Ω)(s:Nat)=>dz ((ae (h m)).getD s 0)
 let v:=λ(m:Ω)(s:Nat)=>(C m s).length
 let N:=List.map ar.shape ([ar.s SV.ff]++([ar.s SV.aq]++[]))
 let O:=λ(m:Ω)=>N=N/\(sm (decide (f m<0))/\(sm (dz (f m)).length/\∀i,i<(dz (f m)).length->sm ((dz (f m)).getD i 0)/\True)/\True)
  /\True
 let w:=λ(m:Int)=>0+m.toNat
 let x:=λ(m:Ω)(s:Int)=>m.getD (w s) 0
 let y:=λ(m:Nat)(s:Int)=>decide (m=w s)
 let z:=λ(m s:Ω)(X:Int)=>(zz (x m X)).tdiv (o s)
 let A:=λ(m s:Ω)(X:Int)=>ah d (e m) λZ=>af (y Z X) (cE (d.enc (x s X)) 0 (zc (z s m X))) (B s Z)
 let P:=λ(m:Ω)(s:Nat)=>decide (m.getD s 0<0)
 let D:=λ(m:Ω)(s:Nat)=>(dz (m.getD s 0)).length
 let Q:=λ(m:Nat)(s:Int)(X y1:Ω)=>if y m s=true then(dz (z X y1 s)).length else D X m
 let j:=λ(m:Ω)=>(ag m).length
 let R:=λ(m:Ω)(s:Nat)=>decide ((ag m).getD s 0<0)
 let T:=λ(m:Ω)(s:Nat)=>(dz ((ag m).getD s 0)).length
 let c0:=λ(m:Ω)(s X:Nat)=>(dz ((ag m).getD s 0)).getD X 0
 ab (2:Nat) (((∀i,i<p.length->k/\d.ak (B p i))/\cr (h p))/\True/\(E p/\∀i,i<c p->k)/\E p/\(∀i,i<c p->nonR (2
  :Nat) (F p i)=true)/\((∀i,i<c p->k/\d.ak (F p i))/\cr (G p))/\(True/\(∀i,i<(dz (f p)).length->(q.enc ((dz (f p)).getD i (0
  :Int))).all isI=true)/\True)/\ab (2:Nat) ((H p/\fit (o p))/\True/\(J p=true->True/\(ij p (0:Int) (r p)/\ab (3:Nat) ((t/\sm (c p))/\ab
  (10:Nat) (g p=g p/\sm (0:Int)/\K))/\u=u/\((c p=e p/\L/\∀i,i<c p->M p i=decide ((r p).getD i (0:Int)<(0:Int))/\(v p i=(dz
  ((r p).getD i (0:Int))).length/\∀(b:Nat),b<v p i->(C p i).getD b (0:Int)=(dz ((r p).getD i (0:Int))).getD b (0:Int)/\True)/\True)/\True)
  /\O p)/\∀(n:Int)(l:Ω),ij p n l->True/\(decide (n<g p)=true->True/\((0:Int)<=n/\n<g p)/\w n<e p/\ab (2:Nat) (((d.ak (zc
  (x l n))/\H p)/\fit (zz (x l n))/\fit (o p)/\o p≠(0:Int))/\((0:Int)<=n/\n<g p)/\w n<e p/\ru true/\True/\ij p (W (n+(1:Int))) (A p l
  n)/\(↑(e p)-W (n+(1:Int))).toNat<(↑(e p)-n).toNat/\ab (3:Nat) ((t/\sm (c p))/\ab (10:Nat) (g p=g p/\sm (W (n+(1:Int)))/\K))/\u=u/\
  ((sm (e p)/\L/\∀i,i<e p->(if y i n=true then decide (z l p n<(0:Int))else P l i)=decide ((A p l n).getD i (0:Int)<(0:Int))/\(Q i n
  l p=(dz ((A p l n).getD i (0:Int))).length/\∀(b:Nat),b<Q i n l p->bK (if y i n=true then q.enc ((dz (z l p n)).getD b (0:Int))else q.enc
  ((dz (l.getD i (0:Int))).getD b (0:Int))) (q.enc ((dz ((A p l n).getD i (0:Int))).getD b (0:Int))))/\True)/\True)/\O p))/\(decide (n<g p)=false
  ->True/\((t/\c p=j p/\j p<=e p)/\(∀i,i<j p->k/\P l i=R p i/\(D l i=T p i/\∀(b:Nat),b<D l i->(dz (l.getD i (0:Int))).getD
  b (0:Int)=c0 p i b/\True)/\True)/\True)/\True))/\(J p=false->True/\((t/\c p=j p/\j p<=c p)/\(∀i,i<j p->k/\M p i=R p i/\(v
  p i=T p i/\∀(b:Nat),b<v p i->(C p i).getD b (0:Int)=c0 p i b/\True)/\True)/\True)/\True))))=S7 p:=by kernel_rfl
theorem GA:lu []=0:=by unfold lu;rfl
theorem ry(x:Int)(r:Ω):lu (x::r)=Nat.gcd (lu r) x.natAbs:=by rw[lu]
theorem mT(p:Ω):iD p=(lu p:Int):=by unfold iD;rfl
theorem F7{p:Ω}(h:∀z∈p,fit z):fit (lu p:Int):=by
 induction p with
 |nil=>rw[GA];exact qs
 |cons x r b=>
  rw[ry]
  by_cases c:x.natAbs=0
  . rw[c,Nat.gcd_zero_right];exact b λz d=>h z (by simp[d])
  . refine rl (h x (by simp)) ?_;rw[Y5];exact Nat.gcd_le_right _ (by omega)
theorem Lm(p:Ω)(k:Nat):lu p∣lu (p.drop k):=by
 induction p generalizing k with
 |nil=>simp
 |cons x r b=>
  cases k with
  |zero=>simp
  |succ k=>rw[List.drop_succ_cons,ry];exact Nat.dvd_trans (Nat.gcd_dvd_left _ _) (b k)
theorem Li{p:Ω}{i:Nat}(h:i<p.length):lu (p.drop i)=Nat.gcd (lu (p.drop (i+1))) (p.getD i 0).natAbs:=by
 rw[Qa h,ry,J0,J4 h];rfl
theorem LG(n:Nat):(bl (n:Int)=1↔n=1)/\(1<bl (n:Int)↔1<n):=by
 unfold bl;rw[Y5];have b:n<2^1->wL n<=1:=xJ;have c:wL n<=1->n<2^1:=HK;have d:n<2^0->wL n<=0:=xJ;have e:wL n<=0->n<2^0:=HK;omega
theorem uQ{p:Ω}(h:cr p):∀z∈p,fit z:=by unfold cr at h;exact h.2
theorem Ir{p:Ω}(b:p.length<=1000)(c:∀z∈p,fit z):cr p:=by unfold cr;exact⟨b,c⟩
theorem zeq{x y:Int}(h:x=y):(x<0↔y<0)/\(dz x).length=(dz y).length/\∀i:Nat,i<(dz x).length->(dz x).getD i 0=(dz y).getD i 0:=by
 subst h;exact⟨J9,rfl,λ_ _=>rfl⟩
theorem k361:aH prog Wx:=av YY hm func361 (by kernel_rfl) (by kernel_rfl) sP.ok (by kernel_rfl) (λa=>XJ a) λa c=>by
 have h:SG a:=by
  rw[<-P1];simp only[aA];generalize a=p at*
  try dsimp only at c
  have r:=jC c;simp[-List.getD_eq_getElem?_getD];rw[show W ((p.length:Int)-1)=p.length-1 from aO (by omega) (by omega)];refine⟨?_,λn g b=>?_⟩
  . unfold pQ;refine⟨by omega,by omega,?_⟩;rw[Y6 (by omega),GA];rfl
  unfold pQ at b;obtain⟨u,o,rfl⟩:=b;have d:fit (lu (p.drop (n+1).toNat):Int):=F7 λz q=>uQ c z (KJ q)
  have j:=Lm p (n+1).toNat;rw[aO (n:=n-1) (by omega) (by omega)];refine⟨λk=>⟨d,λm=>⟨⟨k,o⟩,⟨d,cP c _⟩,?_,by omega⟩,λm=>zeq ?_⟩,λk=>zeq ?_⟩
  . unfold pQ;refine⟨by omega,by omega,?_⟩;have:=Li (p:=p) (i:=n.toNat) (by omega);rw[show n.toNat+1=(n+1).toNat by omega]at this;rw[show(n-1+1).toNat=n.toNat by omega,this];simp[Int.gcd]
  . rw[mT];have e:=(LG _).1.1 m;rw[e]at j⊢;rw[Nat.dvd_one.1 j]
  . rw[mT,show(n+1).toNat=0 by omega];rfl
 exact h
@[simp] theorem aai(z:Int):nonR 2 (aj.enc z)=true:=by rw[M3];rfl
@[simp] theorem isI_int(k:IntKind)(n:Int):isI (.int k n)=true:=rfl
theorem fw(p:Ω):(ag p).length=(ae p).length:=by
 unfold ag;split<;>simp
theorem W9{p:Ω}(h:cr p):fit (iD p):=by rw[mT];exact F7 (uQ h)
theorem LO(p:Ω):1<bl (iD p)↔1<iD p:=by
 rw[mT];have:=(LG (lu p)).2;omega
theorem Hj{p:Ω}{i:Int}{b:Ω}(h:ij p i b):b.length=(ae p).length:=by
 unfold ij at h;obtain⟨c,d,rfl⟩:=h;simp;omega
theorem Hw{p:Ω}{i:Int}{b:Ω}(d:cr (ae p))(h:ij p i b)(k:Nat):fit (b.getD k 0):=by
 unfold ij at h;obtain⟨j,m,rfl⟩:=h;refine uG qs (λz c=>?_) k;rcases Xt.1 c with c|c
 . obtain⟨x,e,rfl⟩:=Kh.1 c;refine rl (uQ d x (Zg e)) ?_;rw[Xk];exact Za _ _
 . exact uQ d z (KJ c)
theorem FY{p:Ω}{i:Int}{b:Ω}(h:ij p i b)(m:i<(ae p).length):ij p (i+1) (b.set i.toNat ((b.getD i.toNat 0).tdiv (iD (ae p)))):=by
 unfold ij at h⊢;obtain⟨o,r,k⟩:=h;refine⟨by omega,by omega,?_⟩;rw[k,show(i+1).toNat=i.toNat+1 by omega];generalize ae p=q at*
 generalize iD q=c at*
 have d:i.toNat<q.length:=by omega
 have j:((q.take i.toNat).map λz=>z.tdiv c).length=i.toNat:=by simp;omega
 have e:(((q.take i.toNat).map λz=>z.tdiv c)++q.drop i.toNat).getD i.toNat 0=q.getD i.toNat 0:=by
  rw[J0,Jy (by omega),j];simp
 rw[e,Qa d,cG j,X4,J0,J4 d];simp only[K5,Y4,Jq,Xj,Qx,J8,Z2]
theorem Ns{l m:Ω}(h:l=m)(n:Nat):∀i,i<n->(l.getD i 0<0↔m.getD i 0<0)/\(dz (l.getD i 0)).length=(dz (m.getD i 0)).length/\∀j:Nat,j<(dz (l.getD i 0)).length->(dz (l.getD i 0)).getD j 0=(dz (m.getD i 0)).getD j 0:=by
 subst h;exact wy l n
theorem k307:aH prog WR:=av k361 hm func307 (by kernel_rfl) (by kernel_rfl) sP.ok (by kernel_rfl) (λa=>a307 a) λa m=>by
 have h:S7 a:=by
  rw[<-Of];simp only[aA];generalize a=p at*
  try dsimp only at m
  have j:=Aw m;have u:=jC j;simp[-List.getD_eq_getElem?_getD,m,j,W9 j,fw];refine⟨λo=>?_,λo=>?_⟩
  . have q:=(LO _).1 o;refine⟨?_,λn l b=>⟨λk=>?_,λk=>?_⟩⟩
    . unfold ij;refine⟨by omega,by omega,?_⟩;simp
    . have c:=Hj b;have i:0<=n:=by unfold ij at b;exact b.1
      have d:=FY b k;rw[aO (n:=n+1) (by omega) (by omega),uK c.symm];refine⟨⟨i,k⟩,by omega,⟨Hw j b _,by omega⟩,⟨i,k⟩,by omega,d,by omega,jK rfl c.symm⟩
    . have e:l=ag p:=by
       unfold ij at b;obtain⟨w,x,r⟩:=b;rw[r,show n.toNat=(ae p).length by omega];unfold ag;rw[JB q];simp
      exact Ns e _
  . have e:ae p=ag p:=by
     unfold ag;rw[JA λh=>by have:=(LO _).2 h;omega]
    exact Ns e _
 exact h
end Go.Proofs.Big
