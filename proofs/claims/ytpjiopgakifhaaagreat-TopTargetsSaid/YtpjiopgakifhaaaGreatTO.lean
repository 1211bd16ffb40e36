import Derived.Test.YtpjiopgakifhaaaGreatTJ
import Derived.Test.YtpjiopgakifhaaaGreatTN
set_option linter.unusedSectionVars false
set_option linter.unusedSimpArgs false
set_option linter.unusedVariables false
set_option maxRecDepth 100000
namespace Go.Proofs.Big
open Go Go.Sx Go.Proofs
variable [bW]
attribute [local irreducible] lm nv tl dg dz
abbrev Pp :Arg (List Int):=zN aj
abbrev pS (p:List Int):SV:=Pp.enc p
def frP (p:List Int):SV:= .Gl 204 2 p.length fun i=>aj.enc (p.getD i 0)
def sP :=iR.one Pp
def Hs :=iR.cons Pp sP
def cr (p:List Int):Prop:=p.length<=1000/\ ∀z∈p,fit z
def bj (k:Nat) (p:List Int):Prop:=p.length<=1000/\ ∀z∈p,(z.natAbs:Int)<pw k
def ae (p:List Int):List Int:=p.take (tl p)
def dH (p:List Int):List Int:=p.map fun z=> -z
def pc (p q:List Int) (n:Nat):List Int:=(List.range n).map fun i=>p.getD i 0+q.getD i 0
def dZ (p q:List Int):List Int:=ae (pc p q (max (tl p) (tl q)))
def eI (p:List Int) (i:Int) (out:List Int):Prop:=0<=i/\i<=(tl p:Int)/\out=p.take i.toNat++List.replicate (tl p-i.toNat) 0
def iG (p:List Int) (i:Int) (out:List Int):Prop:=0<=i/\i<=(p.length:Int)/\out=dH (p.take i.toNat)++List.replicate (p.length-i.toNat) 0
def fI (p q:List Int) (i:Int) (out:List Int):Prop:=0<=i/\i<=(max (tl p) (tl q):Nat)/\out=pc p q i.toNat++List.replicate (max (tl p) (tl q)-i.toNat) 0
attribute [irreducible] cr bj ae dH pc dZ eI iG fI
def c254 :bB:=fl sP.dec (fun a=>cr a) (fun a=>iS ((tl a:Int)-1))
def We :List (Nat×bB):=(254,c254)::Wn
def YG (p:List Int):List kM:=[⟨.unit, .int .i64 (.tm 3),fun _ (n:Int)=>(tl p:Int)<=n+1/\n<(p.length:Int),fun _ (n:Int)=>(n+1).toNat⟩]
def Sy (p:List Int):Prop:=fQ Wn Tryz.f254 (YG p) [pS p] (iS ((tl p:Int)-1))
def c258 :bB:=fl sP.dec (fun a=>cr a) (fun a=>frP (ae a))
def WO :List (Nat×bB):=(258,c258)::We
def XU (p:List Int):List kM:=[⟨.unit, .list [.int .i64 (.tm 15), .iQ aj (tl p) 0 0],fun _ (x:Int×List Int)=>eI p x.1 x.2,fun _ (x:Int×List Int)=>(tl p-x.1).toNat⟩]
def S2 (p:List Int):Prop:=fQ We Tryz.f258 (XU p) [pS p] (frP (ae p))
def c290 :bB:=fl sP.dec (fun a=>cr a) (fun a=>pS (dH a))
def V7 :List (Nat×bB):=(290,c290)::WO
def a290 (p:List Int):List kM:=[⟨.unit, .list [.int .i64 (.tm 10), .iQ aj p.length 0 0],fun _ (x:Int×List Int)=>iG p x.1 x.2,fun _ (x:Int×List Int)=>(p.length-x.1).toNat⟩]
def TA (p:List Int):Prop:=fQ WO Tryz.f290 (a290 p) [pS p] (pS (dH p))
def Rg :bB:=fl Hs.dec (fun a=>bj 100000 a.1/\bj 100000 a.2) (fun a=>pS (dZ a.1 a.2))
def Uk :List (Nat×bB):=(289,Rg)::V7
def YV (p:List Int) (q:List Int):List kM:=[⟨.unit, .list [.int .i64 (.tm 21), .iQ aj (max (tl p) (tl q)) 0 0],fun _ (x:Int×List Int)=>fI p q x.1 x.2,fun _ (x:Int×List Int)=>((max (tl p) (tl q):Nat)-x.1).toNat⟩]
def S4 (p:List Int) (q:List Int):Prop:=fQ V7 Tryz.f289 (YV p q) [pS p,pS q] (pS (dZ p q))
theorem Ng (p:List Int):(
 let c:=fun(x:List Int)=>(↑(tl x):Int)
 let d:=fun(x:List Int)=>(↑x.length:Int)
 let e:=fun(x:List Int)=>W (d x-1)
 let f:=fun(x:List Int)=>x.length=x.length/\ ∀(i:Nat),i<x.length->sm (decide (x.getD i 0<0))/\(sm (dz (x.getD i 0)).length/\ ∀(i_1:Nat),i_1
  <(dz (x.getD i 0)).length->sm ((dz (x.getD i 0)).getD i_1 0)/\True)/\True
 let g:=ab 16 True
 let h:=fun(x:Int)=>decide (x>=0)
 let j:=fun(x:List Int) (y:Int)=>aW (zz (x.getD y.toNat 0))==0
 ab 2 (((c p<=e p+1/\e p<d p)/\(f p/\ab 2 (sm (e p)/\g))/\True)/\ ∀(n:Int),c p<=n+1/\n<d p->(h n=true->(0<=n/\n<d p)/\True/\(aj.ak
  (zc (p.getD n.toNat 0))/\fit (zz (p.getD n.toNat 0)))/\True/\(j p n=true->True/\(c p<=W (n-1)+1/\W (n-1)<d p)/\(W (n-1)+1).toNat<(n+1).toNat
  /\(f p/\ab 2 (sm (W (n-1))/\g))/\True)/\(j p n=false->ab 2 (n=c p-1/\True)))/\(h n=false->ab 3 (n=c p-1/\True))))=Sy p:=by kernel_rfl
theorem L9 (p:List Int):(
 let e:=fun(x:List Int)=>x.length
 let c:=aj
 let s:=fun(x:List Int) (m:Nat)=>c.enc (x.getD m 0)
 let A:=fun(x:List Int)=>ah c (e x) (s x)
 let f:=fun(x:List Int)=>W (↑(tl (A x))-1+1)
 let B:=fun(x:List Int)=>f x==0
 let k:=fun(x:List Int)=>(ae x).length
 let t:=fun(m:List Int)=>ah c (tl m) fun x=>[SV.ff,SV.aq]
 let u:=fun(x:List Int) (m:Nat)=>decide (x.getD m 0<0)
 let h:=fun(x:List Int) (m:Nat)=>(dz (x.getD m 0)).length
 let v:=fun(x:List Int) (m x1:Nat)=>(dz (x.getD m 0)).getD x1 0
 let C:=fun(x:List Int)=>e x=e x/\ ∀(i:Nat),i<e x->sm (u x i)/\(sm (h x i)/\ ∀(i_1:Nat),i_1<h x i->sm (v x i i_1)/\True)/\True
 let w:=sm 0
 let g:=fun(x:List Int)=>(f x).toNat
 let d:=fun(x:List Int)=>(↑(g x):Int)
 let D:=ab 12 True
 let o:=([]:List (Option (Nat×Nat)))
 let E:=2=c.n
 let j:=fun(x:List Int) (m:Int)=>zz (x.getD m.toNat 0)
 let y:=fun(x:Int)=>0+x.toNat
 let q:=fun(x:Nat) (m:Int)=>decide (x=y m)
 let r:=fun(x m:List Int) (x1:Int)=>ah c (tl x) fun i'=>af (q i' x1) (cE (c.enc (m.getD (y x1) 0)) 0 (zc (j x x1))) (s m i')
 let F:=fun(x:Nat) (m:Int) (x1 y1:List Int)=>if q x m=true then(dz (j x1 m)).length else h y1 x
 let z:=aF IntKind.u32
 ab (2:Nat) (((∀(i:Nat),i<e p->true=true/\c.ak (s p i))/\cr (A p))/\ab (2:Nat) ((B p=true->True/\(k p=(0:Nat)/\True)/\True)/\(B p
  =false->(sm (f p)/\(0:Int)<=f p/\f p<=(9223372036854775807:Int)/\(32:Int)*f p<=(281474976710656:Int))/\ab (2:Nat) ((eI p (0:Int) (t p)
  /\(C p/\ab (3:Nat) ((w/\sm (g p))/\ab (9:Nat) (d p=d p/\sm (0:Int)/\D)))/\o=o/\((g p=tl p/\E/\ ∀(i:Nat),i<g p->decide ((t p).getD i
  (0:Int)<(0:Int))=false/\(dz ((t p).getD i (0:Int))).length=(0:Nat)/\True)/\True)/\True)/\ ∀(n:Int) (l:List Int),eI p n l->True/\(decide
  (n<d p)=true->True/\((0:Int)<=n/\n< ↑(e p))/\True/\(c.ak (zc (p.getD n.toNat (0:Int)))/\fit (j p n))/\((0:Int)<=n/\n<d p)/\y n<tl p/\
  ab (2:Nat) (eI p (W (n+(1:Int))) (r p l n)/\(↑(tl p)-W (n+(1:Int))).toNat<(↑(tl p)-n).toNat/\(C p/\ab (3:Nat) ((w/\sm (g p))/\ab (9
  :Nat) (d p=d p/\sm (W (n+(1:Int)))/\D)))/\o=o/\((tl p=tl p/\E/\ ∀(i:Nat),i<tl p->(if q i n=true then decide (j p n<(0:Int))else u l
  i)=decide ((r p l n).getD i (0:Int)<(0:Int))/\(F i n p l=(dz ((r p l n).getD i (0:Int))).length/\ ∀(i_1:Nat),i_1<F i n p l->bK (if q i n=
  true then z.enc ((dz (j p n)).getD i_1 (0:Int))else z.enc (v l i i_1)) (z.enc ((dz ((r p l n).getD i (0:Int))).getD i_1 (0:Int))))/\True)/\True)/\True))
  /\(decide (n<d p)=false->True/\((w/\g p=k p/\k p<=tl p)/\(∀(i:Nat),i<k p->true=true/\u l i=decide ((ae p).getD i (0:Int)<(0:Int))
  /\(h l i=(dz ((ae p).getD i (0:Int))).length/\ ∀(i_1:Nat),i_1<h l i->v l i i_1=(dz ((ae p).getD i (0:Int))).getD i_1 (0:Int)/\True)/\True)
  /\True)/\True))))))=S2 p:=by kernel_rfl
theorem LM (p:List Int):(
 let d:=fun(x:List Int)=>x.length
 let c:=fun(x:List Int)=>(↑(d x):Int)
 let f:=aj
 let k:=fun(m:List Int)=>ah f (d m) fun x=>[SV.ff,SV.aq]
 let s:=fun(x:List Int) (m:Nat)=>decide (x.getD m 0<0)
 let o:=fun(x:List Int) (m:Nat)=>(dz (x.getD m 0)).length
 let t:=fun(x:List Int)=>d x=d x/\ ∀(i:Nat),i<d x->sm (s x i)/\(sm (o x i)/\ ∀(i_1:Nat),i_1<o x i->sm ((dz (x.getD i 0)).getD i_1 0)/\True)
  /\True
 let e:=fun(x:List Int)=>(c x).toNat
 let u:=fun(x:List Int)=>sm 0/\sm (e x)
 let v:=ab 12 True
 let g:=([]:List (Option (Nat×Nat)))
 let w:=2=f.n
 let q:=fun(x:Int)=>0+x.toNat
 let h:=fun(x:Nat) (m:Int)=>decide (x=q m)
 let j:=fun(x m:List Int) (x1:Int)=>ah f (d x) fun i'=>af (h i' x1) (cE (f.enc (m.getD (q x1) 0)) 0 (zc (-zz (x.getD x1.toNat 0)))) (f.enc (m.getD
  i' 0))
 let y:=fun(x:List Int) (m:Int)=>dz (-zz (x.getD m.toNat 0))
 let z:=fun(x:Nat) (m:Int) (x1 y1:List Int)=>if h x m=true then(y x1 m).length else o y1 x
 let r:=aF IntKind.u32
 let A:=fun(x:List Int) (m:Nat)=>(dz (x.getD (0+m) 0)).length
 True/\(c p=c p/\(0:Int)<=c p/\c p<=(9223372036854775807:Int)/\(32:Int)*c p<=(281474976710656:Int))/\ab (2:Nat) ((iG p (0:Int) (k p)
  /\(t p/\ab (2:Nat) (u p/\ab (5:Nat) (c p=c p/\sm (0:Int)/\v)))/\g=g/\((e p=d p/\w/\ ∀(i:Nat),i<e p->decide ((k p).getD i (0:Int)<
  (0:Int))=false/\(dz ((k p).getD i (0:Int))).length=(0:Nat)/\True)/\True)/\True)/\ ∀(n:Int) (l:List Int),iG p n l->True/\(decide (n<c
  p)=true->True/\((0:Int)<=n/\n<c p)/\True/\(f.ak (zc (p.getD n.toNat (0:Int)))/\fit (zz (p.getD n.toNat (0:Int))))/\((0:Int)<=n/\n< ↑(e p))
  /\q n<d p/\ab (2:Nat) (iG p (W (n+(1:Int))) (j p l n)/\(c p-W (n+(1:Int))).toNat<(c p-n).toNat/\(t p/\ab (2:Nat) (u p/\ab (5:Nat)
  (c p=c p/\sm (W (n+(1:Int)))/\v)))/\g=g/\((d p=d p/\w/\ ∀(i:Nat),i<d p->(if h i n=true then decide (-zz (p.getD n.toNat (0:Int))<(0:
  Int))else s l i)=decide ((j p l n).getD i (0:Int)<(0:Int))/\(z i n p l=(dz ((j p l n).getD i (0:Int))).length/\ ∀(i_1:Nat),i_1<z i n p l->bK
  (if h i n=true then r.enc ((y p n).getD i_1 (0:Int))else r.enc ((dz (l.getD i (0:Int))).getD i_1 (0:Int))) (r.enc ((dz ((j p l n).getD i (0:Int))).getD
  i_1 (0:Int))))/\True)/\True)/\True))/\(decide (n<c p)=false->True/\((0:Nat)+e p<=d p/\ ∀(i:Nat),i<d p->true=true)/\(e p=(dH p).length
  /\ ∀(i:Nat),i<e p->decide (l.getD ((0:Nat)+i) (0:Int)<(0:Int))=decide ((dH p).getD i (0:Int)<(0:Int))/\(A l i=(dz ((dH p).getD i (0
  :Int))).length/\ ∀(i_1:Nat),i_1<A l i->(dz (l.getD ((0:Nat)+i) (0:Int))).getD i_1 (0:Int)=(dz ((dH p).getD i (0:Int))).getD i_1 (0:Int)/\
  True)/\True)/\True)))=TA p:=by kernel_rfl
theorem LN (p:List Int) (q:List Int):(
 let t:=fun(x:List Int)=>x.length
 let E:=true=true
 let d:=aj
 let h:=fun(x:List Int) (m:Nat)=>d.enc (x.getD m 0)
 let c9:=fun(x:List Int)=>ah d (t x) (h x)
 let d0:=fun(x:List Int)=>(∀(i:Nat),i<t x->E/\d.ak (h x i))/\cr (c9 x)
 let k:=fun(x:List Int)=>W (↑(tl (c9 x))-1+1)
 let w:=fun(x m:List Int)=>if k x>k m then k x else k m
 let c:=fun(x m:List Int)=>max (tl x) (tl m)
 let c0:=fun(m x1:List Int)=>ah d (c m x1) fun x=>[SV.ff,SV.aq]
 let F:=fun(x:List Int) (m:Nat)=>decide (x.getD m 0<0)
 let u:=fun(x:List Int) (m:Nat)=>(dz (x.getD m 0)).length
 let G:=fun(x:List Int) (m x1:Nat)=>(dz (x.getD m 0)).getD x1 0
 let H:=fun(x:List Int)=>t x=t x/\ ∀(i:Nat),i<t x->sm (F x i)/\(sm (u x i)/\ ∀(i_1:Nat),i_1<u x i->sm (G x i i_1)/\True)/\True
 let J:=fun(x:List Int)=>sm (k x)
 let o:=fun(x m:List Int)=>(w x m).toNat
 let d1:=fun(x m:List Int)=>sm 0/\sm (o x m)
 let r:=fun(x m:List Int)=>(↑(o x m):Int)
 let d2:=ab 30 True
 let d3:=([]:List (Option (Nat×Nat)))
 let y:=d3=d3
 let c1:=d.n
 let K:=2=c1
 let c2:=fun(x:Int) (m:List Int)=>decide (x<k m)=true
 let c3:=fun(x:Int) (m:List Int)=>0<=x/\x< ↑(t m)
 let z:=fun(x:Int) (m x1:List Int)=>0<=x/\x<r m x1
 let A:=fun(x:Int)=>0+x.toNat
 let B:=fun(x:Int) (m x1:List Int)=>A x<c m x1
 let L:=fun(x:Int)=>decide (A x=A x)
 let e:=fun(x:List Int) (m:Int)=>x.getD m.toNat 0
 let s:=fun(x:List Int) (m:Int)=>x.getD (A m) 0
 let d4:=fun(x:Int) (m x1:List Int)=>if L x=true then decide (e m x<0)else decide (s x1 x<0)
 let d5:=fun(x:Int) (m x1:List Int)=>if L x=true then(dz (e m x)).length else(dz (s x1 x)).length
 let g:=aF IntKind.u32
 let d6:=fun(x:Int) (m x1:List Int) (y1:Nat)=>if L x=true then g.enc ((dz (e m x)).getD y1 0)else g.enc ((dz (s x1 x)).getD y1 0)
 let C:=fun(x:Int) (m x1:List Int)=>zv (d4 x m x1) (ah g (d5 x m x1) (d6 x m x1))
 let v:=fun(x:Int)=>W (x+1)
 let f:=fun(x:Nat) (m:Int)=>decide (x=A m)
 let M:=fun(x:List Int) (m:Int)=>d.enc (s x m)
 let c4:=fun(x:Nat) (m:Int) (x1 y1:List Int)=>af (f x m) (cE (M x1 m) 0 (zc (e y1 m))) (h x1 x)
 let N:=fun(x m x1:List Int) (y1:Int)=>ah d (c x m) fun i'=>af (f i' y1) (cE (af (L y1) (cE (M x1 y1) 0 (zc (e x y1))) (M x1 y1)) 0 (zc (C
  y1 x x1+zz (e m y1)))) (c4 i' y1 x1 x)
 let O:=fun(x m:List Int) (x1:Int)=>(↑(c x m)-v x1).toNat<(↑(c x m)-x1).toNat
 let P:=fun(x m:List Int) (x1:Int)=>H x/\H m/\ab 3 (J x/\J m/\d1 m x/\ab 12 (r m x=r m x/\sm (v x1)/\d2))
 let d7:=fun(x:Nat) (m:Int) (x1 y1:List Int)=>if f x m=true then decide (e x1 m<0)else F y1 x
 let c5:=fun(x:Nat) (m:Int) (x1 y1:List Int)=>if f x m=true then(dz (e x1 m)).length else u y1 x
 let d8:=fun(x:Nat) (m:Int) (x1 y1 u1:List Int)=>if f x m=true then(dz (C m x1 y1+zz (e u1 m))).length else c5 x m x1 y1
 let d9:=fun(x m:Nat) (x1:Int) (y1 u1:List Int)=>if f x x1=true then g.enc ((dz (e y1 x1)).getD m 0)else g.enc (G u1 x m)
 let c6:=fun(x:Int) (m:List Int)=>decide (x<k m)=false
 let c7:=fun(x m x1:List Int) (y1:Int) (u1:Nat)=>(ah d (c x m) fun i'=>c4 i' y1 x1 x).getD u1 0
 let Q:=fun(x m:List Int) (x1:Int)=>zz (s x x1)+zz (e m x1)
 let R:=fun(x m x1:List Int) (y1:Int)=>ah d (c x m) fun i'=>af (f i' y1) (cE (M x1 y1) 0 (zc (Q x1 m y1))) (h x1 i')
 let e0:=fun(x:Nat) (m:Int) (x1 y1:List Int)=>if f x m=true then(dz (Q x1 y1 m)).length else u x1 x
 let e1:=fun(x m x1:List Int) (y1:Nat)=>dz ((ah d (c x m) (h x1)).getD y1 0)
 let e2:=fun(x:List Int) (m:Nat)=>d.enc (x.getD (0+m) 0)
 let T:=fun(x m x1:List Int)=>ah d (o x m) fun i=>e2 x1 i
 let D:=fun(x m x1:List Int)=>(ae (T x m x1)).length
 let c8:=fun(x m x1:List Int) (y1:Nat)=>dz ((ae (T x m x1)).getD (0+y1) 0)
 ab (2:Nat) (d0 p/\True/\d0 q/\True/\(sm (w q p)/\(0:Int)<=w q p/\w q p<=(9223372036854775807:Int)/\(32:Int)*w q p<=(281474976710656:Int))
  /\ab (2:Nat) ((fI p q (0:Int) (c0 p q)/\(H p/\H q/\ab (3:Nat) (J p/\J q/\d1 q p/\ab (12:Nat) (r q p=r q p/\sm (0:Int)/\d2)))/\y/\((o
  q p=c p q/\K/\ ∀(i:Nat),i<o q p->decide ((c0 p q).getD i (0:Int)<(0:Int))=false/\(dz ((c0 p q).getD i (0:Int))).length=(0:Nat)/\True)/\
  True)/\True)/\ ∀(n:Int) (l:List Int),fI p q n l->True/\(decide (n<r q p)=true->ab (2:Nat) ((c2 n p->c3 n p/\z n q p/\B n p q/\ab (2:Nat)
  ((c2 n q->z n q p/\B n p q/\c3 n q/\ab (2:Nat) (((d.ak [SV.bool (d4 n p l),SV.aI (1:Nat) (d5 n p l) fun i=>d6 n p l i]/\d.ak (zc (e q n)))/\fit
  (C n p l)/\fit (zz (e q n)))/\z n q p/\B n p q/\ru true/\True/\fI p q (v n) (N p q l n)/\O p q n/\P p q n/\y/\((sm (c p q)/\K/\ ∀(i:Nat),i<
  c p q->(if f i n=true then decide (C n p l+zz (e q n)<(0:Int))else d7 i n p l)=decide ((N p q l n).getD i (0:Int)<(0:Int))/\(d8 i n p l q=(dz
  ((N p q l n).getD i (0:Int))).length/\ ∀(i_1:Nat),i_1<d8 i n p l q->bK (if f i n=true then g.enc ((dz (C n p l+zz (e q n))).getD i_1 (0:Int))else
  d9 i i_1 n p l) (g.enc ((dz ((N p q l n).getD i (0:Int))).getD i_1 (0:Int))))/\True)/\True)/\True))/\(c6 n q->True/\fI p q (v n) (ah d (c p q) fun
  i'=>c4 i' n l p)/\O p q n/\P p q n/\y/\((sm (c p q)/\K/\ ∀(i:Nat),i<c p q->d7 i n p l=decide (c7 p q l n i<(0:Int))/\(c5 i n p l=(dz (c7 p
  q l n i)).length/\ ∀(i_1:Nat),i_1<c5 i n p l->bK (d9 i i_1 n p l) (g.enc ((dz (c7 p q l n i)).getD i_1 (0:Int))))/\True)/\True)/\True)))/\(c6 n p
  ->True/\(c2 n q->z n q p/\B n p q/\c3 n q/\ab (2:Nat) (((d.ak (zc (s l n))/\d.ak (zc (e q n)))/\fit (zz (s l n))/\fit (zz (e q n)))/\z n q p/\B
  n p q/\ru true/\True/\fI p q (v n) (R p q l n)/\O p q n/\P p q n/\y/\((sm (c p q)/\K/\ ∀(i:Nat),i<c p q->(if f i n=true then decide (Q l q
  n<(0:Int))else F l i)=decide ((R p q l n).getD i (0:Int)<(0:Int))/\(e0 i n l q=(dz ((R p q l n).getD i (0:Int))).length/\ ∀(i_1:Nat),i_1<
  e0 i n l q->bK (if f i n=true then g.enc ((dz (Q l q n)).getD i_1 (0:Int))else g.enc (G l i i_1)) (g.enc ((dz ((R p q l n).getD i (0:Int))).getD i_1 (0
  :Int))))/\True)/\True)/\True))/\(c6 n q->True/\fI p q (v n) (ah d (c p q) (h l))/\O p q n/\P p q n/\y/\((sm (c p q)/\c1=c1/\ ∀(i:Nat),i<
  c p q->F l i=decide ((ah d (c p q) (h l)).getD i (0:Int)<(0:Int))/\(u l i=(e1 p q l i).length/\ ∀(i_1:Nat),i_1<u l i->G l i i_1=(e1 p q l
  i).getD i_1 (0:Int)/\True)/\True)/\True)/\True))))/\(decide (n<r q p)=false->((0:Nat)+o q p<=c p q/\ ∀(i:Nat),i<c p q->E)/\((∀(i:Nat),
  i<o q p->E/\d.ak ((fun(j:Nat)=>aj.enc (l.getD j (0:Int))) ((0:Nat)+i)))/\cr (T q p l))/\True/\((0:Nat)+D q p l<=D q p l/\ ∀(i:Nat),
  i<D q p l->E)/\(D q p l=(dZ p q).length/\ ∀(i:Nat),i<D q p l->decide ((ae (T q p l)).getD ((0:Nat)+i) (0:Int)<(0:Int))=decide ((dZ
  p q).getD i (0:Int)<(0:Int))/\((c8 q p l i).length=(dz ((dZ p q).getD i (0:Int))).length/\ ∀(i_1:Nat),i_1<(c8 q p l i).length->(c8 q p l i).getD
  i_1 (0:Int)=(dz ((dZ p q).getD i (0:Int))).getD i_1 (0:Int)/\True)/\True)/\True))))=S4 p q:=by kernel_rfl
@[simp] theorem goodE (z:Int):aj.ak (aj.enc z):=aj.kW z
@[simp] theorem rK (p:List Int):ah aj p.length (fun i=>aj.enc (p.getD i 0))=p:=iJ rfl
theorem lE {p:List Int} {n:Nat} (h:n=p.length):ah aj n (fun i=>aj.enc (p.getD i 0))=p:=by subst h;exact rK p
@[simp] theorem zerosZ (n:Nat):ah aj n (fun _=>[SV.ff,SV.aq])=List.replicate n 0:=xY QN
@[simp] theorem setL_zc (x v:Int):cE (aj.enc x) 0 (zc v)=zc v:=by
 rw [CC];unfold cE;simp [uh]
@[simp] theorem setL_null (v:Int):cE [SV.ff,SV.aq] 0 (zc v)=zc v:=by
 rw [CC];unfold cE;simp [uh]
@[simp] theorem setL_zz (x v:Int):cE (zc x) 0 (zc v)=zc v:=by
 rw [CC,CC];unfold cE;simp [uh]
theorem uK {l:List Int} {n k:Nat} {v:Int} (hn:n=l.length):ah aj n (fun j=>af (decide (j=k)) (zc v) (aj.enc (l.getD j 0)))=l.set k v:=by rw [CC];exact R3 hn
@[simp] theorem setL_mm (c:Bool) (x y v:Int):cE (af c (zc x) (aj.enc y)) 0 (zc v)=zc v:=by
 rw [CC,CC];unfold cE;simp [uh,af]
@[simp] theorem YP {α:Type} {c:Prop} [Decidable c] (x y z:α):(if c then x else if c then y else z)=if c then x else z:=by split<;>simp_all
theorem NP {l:List Int} {n k:Nat} {u v:Int} (hn:n=l.length):ah aj n (fun j=>af (decide (j=k)) (zc v) (af (decide (j=k)) (zc u) (aj.enc (l.getD j 0))))=l.set k v:=by
 refine kj (by simp [hn]) fun j hj=> ?_
 have h1:=aj.Aa (decide (j=k)) _ _ _ _ (Ia u) (aj.self (l.getD j 0));have h2:=aj.Aa (decide (j=k)) _ _ _ _ (Ia v) h1;rw [h2,show aj.qW=0 from rfl,bo (by omega)];simp only [decide_eq_true_eq,YP]
theorem jK {l:List Int} {n k:Nat} {v:Int} {b:Bool} (hb:b=decide (v<0)) (hn:n=l.length): ∀i,i<n->
 (if i=k then b else decide (l.getD i 0<0))=decide ((l.set k v).getD i 0<0)/\(if i=k then(dz v).length else(dz (l.getD i 0)).length)=(dz ((l.set k v).getD i 0)).length/\
  ∀j:Nat,(j<if i=k then(dz v).length else(dz (l.getD i 0)).length)->bK (if i=k then [SV.int .u32 ((dz v).getD j 0)]else [SV.int .u32 ((dz (l.getD i 0)).getD j 0)]) [SV.int .u32 ((dz ((l.set k v).getD i 0)).getD j 0)]:=by
 intro i hi;subst hb;rw [bo (by omega)];have le: ∀x:Int,bK [SV.int .u32 x] [SV.int .u32 x]:=fun x=>⟨vX rfl,trivial⟩
 by_cases h:i=k
 . rw [if_pos h,if_pos h,if_pos h];exact⟨rfl,rfl,fun j _=>by rw [if_pos h];exact le _⟩
 . rw [if_neg h,if_neg h,if_neg h];exact⟨rfl,rfl,fun j _=>by rw [if_neg h];exact le _⟩
theorem Bg (n:Nat): ∀i,i<n->0<=(List.replicate n (0:Int)).getD i 0/\dz ((List.replicate n (0:Int)).getD i 0)=[]:=by
 intro i hi;rw [gR];exact⟨by omega,gz⟩
theorem jC {p:List Int} (h:cr p):p.length<=1000:=by unfold cr at h;exact h.1
theorem qs :fit 0:=by unfold fit;rw [gz];simp
theorem uG {p:List Int} {Q:Int->Prop} (h0:Q 0) (h: ∀z∈p,Q z) (i:Nat):Q (p.getD i 0):=by
 by_cases hi:i<p.length
 . rw [J0,J4 hi];exact h _ (Ku hi)
 . rw [J0,J7 (by omega)];exact h0
theorem cP {p:List Int} (h:cr p) (i:Nat):fit (p.getD i 0):=by unfold cr at h;exact uG qs h.2 i
theorem bU {k:Nat} {p:List Int} (h:bj k p) (i:Nat):((p.getD i 0).natAbs:Int)<pw k:=by
 unfold bj at h;exact uG (Q:=fun z=>(z.natAbs:Int)<pw k) (by simpa using aE k) h.2 i
theorem jm {k:Nat} {p:List Int} (h:bj k p):p.length<=1000:=by unfold bj at h;exact h.1
theorem bz {z:Int} {k:Nat} (h:(z.natAbs:Int)<pw k) (hk:k<=1000000):fit z:=by
 unfold fit;have:=Bc h;omega
theorem bu {k:Nat} {p:List Int} (h:bj k p) (hk:k<=1000000):cr p:=by
 unfold bj at h;unfold cr;exact⟨h.1,fun z hz=>bz (h.2 z hz) hk⟩
theorem jd {k:Nat} {p:List Int} (h1:p.length<=1000) (h2: ∀z∈p,(z.natAbs:Int)<pw k):bj k p:=by unfold bj;exact⟨h1,h2⟩
theorem an {k m:Nat} {p:List Int} (h:bj k p) (hk:k<=m):bj m p:=by
 unfold bj at*;exact⟨h.1,fun z hz=>by have:=h.2 z hz;have:=gT hk;omega⟩
theorem fK {p:List Int} {i:Nat} (h:tl p<=i):p.getD i 0=0:=by
 induction p generalizing i with
 |nil=>simp
 |cons x r ih=>
  cases i with
  |zero=>
   simp only [tl]at h;split at h
   . split at h
     . simpa
     . omega
   . omega
  |succ i=>
   simp only [Zb];apply ih;simp only [tl]at h;split at h
   . omega
   . omega
theorem dq (p:List Int):ae p=p.take (tl p):=by unfold ae;rfl
theorem bn (p:List Int):(ae p).length=tl p:=by rw [dq,Kj,Qn (cX p)]
theorem ck (p:List Int) (i:Nat):(ae p).getD i 0=p.getD i 0:=by
 rw [dq]
 by_cases h:i<tl p
 . exact qX h
 . rw [fK (Nat.le_of_not_lt h),J0,J7 (by rw [Kj];omega)];rfl
theorem ju {z:Int}:aW z=0↔z=0:=by
 unfold aW;split
 . constructor<;>intro h<;>omega
 . split<;>simp_all
theorem Yk :aH Tryz.prog We:=av aal hm Tryz.func254 (by kernel_rfl) (by kernel_rfl) sP.ok (by kernel_rfl) (fun a=>YG a) fun a hp=>by
 have h:Sy a:=by
  rw [<-Ng];simp only [aA];generalize a=p at*
  try dsimp only at hp
  have hl:=jC hp;have ht:=cX p;simp [-List.getD_eq_getElem?_getD,hp,cP hp];have e0:W ((p.length:Int)-1)=p.length-1:=aG (by omega) (by omega);rw [e0];refine⟨by omega,fun n h1 h2=>⟨fun hn=> ?_,fun hn=>by omega⟩⟩;rw [aG (n:=n-1) (by omega) (by omega)];have hs:=qQ (l:=p) (n:=n.toNat+1) (by omega) (by omega);rw [show n.toNat+1-1=n.toNat by omega]at hs;refine⟨by omega,fun e=>⟨?_,by omega⟩,fun e=> ?_⟩
  . have:=hs.1 ⟨by omega,ju.1 e⟩;omega
  . have: ¬tl p<n.toNat+1:=fun h=>e (ju.2 (hs.2 h).2)
    omega
 exact h
theorem oy {p:List Int} {i:Int} {out:List Int} (h:eI p i out):out.length=tl p:=by
 unfold eI at h;obtain⟨h1,h2,rfl⟩:=h;have:=cX p;simp;omega
theorem G5 (p:List Int):eI p 0 (List.replicate (tl p) 0):=by unfold eI;simp
theorem wE {p:List Int} {i:Int} {out:List Int} (h:eI p i out) (hi:i<tl p):eI p (i+1) (out.set i.toNat (p.getD i.toNat 0)):=by
 unfold eI at h⊢;obtain⟨h1,h2,h3⟩:=h;have ht:=cX p;refine⟨by omega,by omega,?_⟩;rw [h3,kO (by omega),cG (by simp;omega),show(i+1).toNat=i.toNat+1 by omega,X4,J0,J4 (show i.toNat<p.length by omega),show tl p-(i.toNat+1)=tl p-i.toNat-1 by omega];simp only [K5,Y4,Jq,Xj]
theorem k258 :aH Tryz.prog WO:=av Yk hm Tryz.func258 (by kernel_rfl) (by kernel_rfl) sP.ok (by kernel_rfl) (fun a=>XU a) fun a hp=>by
 have h:S2 a:=by
  rw [<-L9];simp only [aA];generalize a=p at*
  try dsimp only at hp
  have hl:=jC hp;have ht:=cX p;simp [-List.getD_eq_getElem?_getD,hp,cP hp];rw [aG (n:=(tl p:Int)) (by omega) (by omega)];refine⟨fun e=>Kr (by rw [bn];omega),fun e=>⟨by omega,⟨G5 p,by omega,fun i hi=>Bg _ i (by omega)⟩,fun n l hinv=>⟨fun hn=> ?_,fun hn=> ?_⟩⟩⟩
  . have hlen:=oy hinv;have hn0:0<=n:=by unfold eI at hinv;exact hinv.1
    rw [aG (n:=n+1) (by omega) (by omega),uK hlen.symm];have:=wE hinv (by omega)
    and_intros<;>first|omega|assumption|exact jK (by simp) hlen.symm
  . have hlen:=oy hinv;have e:l=ae p:=by
     unfold eI at hinv;obtain⟨h1,h2,h3⟩:=hinv;rw [h3,show n.toNat=tl p by omega,dq];simp
    rw [e,bn];exact⟨by omega,fun i hi=>by simp⟩
 exact h
theorem jz (p:List Int):(dH p).length=p.length:=by unfold dH;simp
theorem yD {p:List Int} {i:Int} {out:List Int} (h:iG p i out):out.length=p.length:=by
 unfold iG at h;obtain⟨h1,h2,rfl⟩:=h;simp [jz];omega
theorem Pj (p:List Int):iG p 0 (List.replicate p.length 0):=by unfold iG dH;simp
theorem EL {p:List Int} {i:Int} {out:List Int} (h:iG p i out) (hi:i<p.length):iG p (i+1) (out.set i.toNat (-(p.getD i.toNat 0))):=by
 unfold iG at h⊢;obtain⟨h1,h2,h3⟩:=h;refine⟨by omega,by omega,?_⟩;rw [h3,kO (by omega),cG (by rw [jz];simp;omega),show(i+1).toNat=i.toNat+1 by omega,X4,J0,J4 (show i.toNat<p.length by omega),show p.length-(i.toNat+1)=p.length-i.toNat-1 by omega];unfold dH;simp only [K5,Y4,Jq,Xj,Qx,J8,Z2]
theorem Zz :aH Tryz.prog V7:=av k258 hm Tryz.func290 (by kernel_rfl) (by kernel_rfl) sP.ok (by kernel_rfl) (fun a=>a290 a) fun a hp=>by
 have h:TA a:=by
  rw [<-LM];simp only [aA];generalize a=p at*
  try dsimp only at hp
  have hl:=jC hp;simp [-List.getD_eq_getElem?_getD,hp,cP hp];refine⟨by omega,⟨Pj p,fun i hi=>Bg _ i (by omega)⟩,fun n l hinv=>⟨fun hn=> ?_,fun hn=> ?_⟩⟩
  . have hlen:=yD hinv;have hn0:0<=n:=by unfold iG at hinv;exact hinv.1
    rw [aG (n:=n+1) (by omega) (by omega),uK hlen.symm];have:=EL hinv (by omega)
    and_intros<;>first|omega|assumption|exact jK (by simp) hlen.symm
  . have hlen:=yD hinv;have e:l=dH p:=by
     unfold iG at hinv;obtain⟨h1,h2,h3⟩:=hinv;rw [h3,show n.toNat=p.length by omega];simp
    rw [<-e,hlen];exact⟨rfl,fun i hi=>by simp⟩
 exact h
theorem pX (p q:List Int) (n:Nat):(pc p q n).length=n:=by unfold pc;simp
theorem UD (p q:List Int) (n:Nat):pc p q (n+1)=pc p q n++[p.getD n 0+q.getD n 0]:=by
 unfold pc;rw [Q7,Qx];rfl
theorem QX {p q:List Int} {k n:Nat} (hp:bj k p) (hq:bj k q) (hn:n<=1000):bj (k+1) (pc p q n):=by
 refine jd (by rw [pX];exact hn) fun z hz=> ?_
 unfold pc at hz;obtain⟨i,_,rfl⟩:=Kh.1 hz;have h1:=bU hp i;have h2:=bU hq i;rw [bD];omega
theorem yb {p q:List Int} {i:Int} {out:List Int} (h:fI p q i out):out.length=max (tl p) (tl q):=by
 unfold fI at h;obtain⟨h1,h2,rfl⟩:=h;simp [pX];omega
theorem OR (p q:List Int):fI p q 0 (List.replicate (max (tl p) (tl q)) 0):=by unfold fI pc;simp
theorem D4 {p q:List Int} {i:Int} {out:List Int} (h:fI p q i out) (hi:i<(max (tl p) (tl q):Nat)):fI p q (i+1) (out.set i.toNat (p.getD i.toNat 0+q.getD i.toNat 0)):=by
 unfold fI at h⊢;obtain⟨h1,h2,h3⟩:=h;refine⟨by omega,by omega,?_⟩;rw [h3,kO (by omega),cG (by rw [pX]),show(i+1).toNat=i.toNat+1 by omega,UD,show max (tl p) (tl q)-(i.toNat+1)=max (tl p) (tl q)-i.toNat-1 by omega];simp
theorem UL :aH Tryz.prog Uk:=av Zz hm Tryz.func289 (by kernel_rfl) (by kernel_rfl) Hs.ok (by kernel_rfl) (fun a=>YV a.1 a.2) fun a hp=>by
 have h:S4 a.1 a.2:=by
  rw [<-LN];simp only [aA];obtain⟨p,q⟩:=a
  try dsimp only at hp
  have lp:=jm hp.1;have lq:=jm hp.2;have tp:=cX p;have tq:=cX q;have fp:=bu hp.1 (by omega);have fq:=bu hp.2 (by omega);have ff:cr (pc p q (max (tl p) (tl q))):=bu (k:=100001) (QX hp.1 hp.2 (by omega)) (by omega);simp [-List.getD_eq_getElem?_getD,hp,fp,fq];rw [aG (n:=(tl p:Int)) (by omega) (by omega),aG (n:=(tl q:Int)) (by omega) (by omega),show(if(tl p:Int)<(tl q:Int)then(tl q:Int)else(tl p:Int))=((max (tl p) (tl q):Nat):Int) by split<;>omega]
  refine⟨by omega,⟨OR p q,by omega,fun i hi=>Bg _ i (by omega)⟩,fun n l hinv=>⟨fun hn=> ?_,fun hn=> ?_⟩⟩
  . have hlen:=yb hinv;have hn0:0<=n:=by unfold fI at hinv;exact hinv.1
    have hz:l.getD n.toNat 0=0:=by
     unfold fI at hinv;rw [hinv.2.2,J0,Jy (by rw [pX];omega),<-List.getD_eq_getElem?_getD];exact gR _ _
    have hst:=D4 hinv (by omega);have hq0:(tl q:Int)<=n->q.getD n.toNat 0=0:=fun h=>fK (by omega)
    have hp0:(tl p:Int)<=n->p.getD n.toNat 0=0:=fun h=>fK (by omega)
    have f1:=cP fp n.toNat;have f2:=cP fq n.toNat;rw [aG (n:=n+1) (by omega) (by omega),NP hlen.symm,uK hlen.symm];refine⟨fun h1=>⟨by omega,by omega,by omega,fun h2=> ?_,fun h2=> ?_⟩,fun h1=>⟨fun h2=> ?_,fun h2=>by omega⟩⟩
    . and_intros<;>first|omega|assumption|exact jK (by simp) hlen.symm
    . rw [hq0 h2,X6]at hst
      and_intros<;>first|omega|assumption|exact jK (by simp) hlen.symm
    . rw [hp0 h1,Int.zero_add]at hst;rw [hz,Int.zero_add,uK hlen.symm]
      and_intros<;>first|omega|assumption|exact qs|exact jK (by simp) hlen.symm
  . have hlen:=yb hinv;have e:l=pc p q (max (tl p) (tl q)):=by
     unfold fI at hinv;obtain⟨h1,h2,h3⟩:=hinv;rw [h3,show n.toNat=max (tl p) (tl q) by omega];simp
    rw [lE (by omega),e];have:ae (pc p q (max (tl p) (tl q)))=dZ p q:=by unfold dZ;rfl
    rw [this];exact⟨by omega,ff,rfl,fun i hi=>by simp⟩
 exact h
abbrev TJ :Arg (List Int):=zN (aF .i64)
def sIs :=iR.one TJ
def lR (c:List Int):Prop:=c.length<=1000/\ ∀z∈c,fN z
def dJ (p q:List Int):List Int:=dZ p (dH (ae q))
def mulC (p q:List Int) (j:Nat):Nat->Int
 |0=>0
 |i+1=>mulC p q j i+if i<=j then p.getD i 0*q.getD (j-i) 0 else 0
def pM (p q:List Int) (N i k:Nat):List Int:=(List.range N).map fun j=>mulC p q j i+if i<=j/\j-i<k then p.getD i 0*q.getD (j-i) 0 else 0
def tu (p q:List Int) (N i:Nat):List Int:=(List.range N).map fun j=>mulC p q j i
def bX (p q:List Int):List Int:=if tl p=0\/tl q=0 then []else ae (tu p q (tl p+tl q-1) (tl p))
def lW (p:List Int) (n:Nat):List Int:=(List.range n).map fun(j:Nat)=>p.getD (j+1) 0*((j:Int)+1)
def aX (p:List Int):List Int:=ae (lW p (tl p-1))
def iN (p:List Int):List Int:=if p.getD (p.length-1) 0<0 then dH p else p
def iE (c:List Int) (i:Int) (out:List Int):Prop:=0<=i/\i<=(c.length:Int)/\out=c.take i.toNat++List.replicate (c.length-i.toNat) 0
def gM (p q:List Int) (i:Int) (out:List Int):Prop:=0<=i/\i<=tl p/\out=tu p q (tl p+tl q-1) i.toNat
def dW (p q:List Int) (i k:Int) (out:List Int):Prop:=0<=i/\i<tl p/\0<=k/\k<=tl q/\out=pM p q (tl p+tl q-1) i.toNat k.toNat
def mH (p:List Int) (i:Int) (out:List Int):Prop:=1<=i/\(i<=tl p\/i=1)/\out=lW p (i-1).toNat
attribute [irreducible] lR dJ mulC pM tu bX lW aX iN iE gM dW mH
def QY :bB:=fl Hs.dec (fun a=>bj 100000 a.1/\bj 100000 a.2) (fun a=>pS (dJ a.1 a.2))
def VT :List (Nat×bB):=(229,QY)::Uk
def Sd (p:List Int) (q:List Int):Prop:=fQ Uk Tryz.f229 [] [pS p,pS q] (pS (dJ p q))
def U6 :bB:=fl sIs.dec (fun a=>lR a) (fun a=>pS (ae a))
def VC :List (Nat×bB):=(230,U6)::VT
def a230 (c:List Int):List kM:=[⟨.unit, .list [.int .i64 (.tm 11), .iQ aj c.length 0 0],fun _ (x:Int×List Int)=>iE c x.1 x.2,fun _ (x:Int×List Int)=>(c.length-x.1).toNat⟩]
def Ti (c:List Int):Prop:=fQ VT Tryz.f230 (a230 c) [TJ.enc c] (pS (ae c))
def QW :bB:=fl Hs.dec (fun a=>bj 100000 a.1/\bj 100000 a.2/\a.1.length+a.2.length<=1000) (fun a=>pS (bX a.1 a.2))
def VG :List (Nat×bB):=(292,QW)::VC
def XO (p:List Int) (q:List Int):List kM:=[⟨.unit, .list [.int .i64 (.tm 8), .iQ aj (tl p+tl q-1) 0 0],fun _ (x:Int×List Int)=>gM p q x.1 x.2,fun _ (x:Int×List Int)=>(tl p-x.1).toNat⟩,⟨.int .i64 (.tm 8), .list [.int .i64 (.tm 9), .iQ aj (tl p+tl q-1) 0 0],fun(i:Int) (x:Int×List Int)=>dW p q i x.1 x.2,fun(i:Int) (x:Int×List Int)=>(tl q-x.1).toNat⟩]
def SJ (p:List Int) (q:List Int):Prop:=fQ VC Tryz.f292 (XO p q) [pS p,pS q] (pS (bX p q))
def c308 :bB:=fl sP.dec (fun a=>bj 100000 a) (fun a=>pS (aX a))
def UF :List (Nat×bB):=(308,c308)::VG
def a308 (p:List Int):List kM:=[⟨.unit, .list [.int .i64 (.tm 4), .ah aj 0 204 [.tm 3]],fun _ (x:Int×List Int)=>mH p x.1 x.2,fun _ (x:Int×List Int)=>(tl p-x.1).toNat⟩]
def Sp (p:List Int):Prop:=fQ VG Tryz.f308 (a308 p) [pS p] (pS (aX p))
def c310 :bB:=fl sP.dec (fun a=>cr a) (fun a=>pS (iN a))
def Wq :List (Nat×bB):=(310,c310)::UF
def Tq (p:List Int):Prop:=fQ UF Tryz.f310 [] [pS p] (pS (iN p))
theorem MY (p:List Int) (q:List Int):(
 let g:=true=true
 let c:=aj
 let k:=fun(x:List Int)=> ∀(i:Nat),i<x.length->g/\c.ak (c.enc (x.getD i 0))
 let r:=fun(x:List Int)=>fun i=>c.enc (x.getD i 0)
 let d:=fun(x:List Int)=>ah c x.length (r x)
 let e:=fun(x:List Int)=>(ae (d x)).length
 let s:=fun(x:List Int) (y:Nat)=>c.enc ((ae (d x)).getD (0+y) 0)
 let h:=fun(x:List Int)=>ah c (e x) fun i=>s x i
 let o:=fun(x:List Int) (y:Nat)=>c.enc ((dH (h x)).getD y 0)
 let f:=fun(x:List Int)=>ah c (dH (h x)).length (o x)
 let j:=fun(x y:List Int) (u:Nat)=>dz ((dZ (d x) (f y)).getD u 0)
 ab 2 ((k q/\cr (d q))/\(0+e q<=e q/\ ∀(i:Nat),i<e q->g)/\((∀(i:Nat),i<e q->g/\c.ak ((fun(i:Nat)=>aj.enc ((ae (ah aj q.length
  fun i=>aj.enc (q.getD i 0))).getD i 0)) (0+i)))/\cr (h q))/\ab 2 (((k p/\ ∀(i:Nat),i<(dH (h q)).length->g/\c.ak (o q i))/\bj 100000 (d p)
  /\bj 100000 (f q))/\ab 2 (((dZ (d p) (f q)).length=(dJ p q).length/\ ∀(i:Nat),i<(dZ (d p) (f q)).length->decide ((dZ (d p) (f q)).getD i
  0<0)=decide ((dJ p q).getD i 0<0)/\((j p q i).length=(dz ((dJ p q).getD i 0)).length/\ ∀(i_1:Nat),i_1<(j p q i).length->(j p q i).getD i_1
  0=(dz ((dJ p q).getD i 0)).getD i_1 0/\True)/\True)/\True))))=Sd p q:=by kernel_rfl
theorem LP (c:List Int):(
 let e:=fun(x:List Int)=>x.length
 let d:=fun(x:List Int)=>(↑(e x):Int)
 let f:=aj
 let t:=fun(m:List Int)=>ah f (e m) fun x=>[SV.ff,SV.aq]
 let g:=fun(x:List Int)=>(d x).toNat
 let z:=fun(x:List Int)=>sm 0/\sm (g x)
 let h:=fun(x:List Int) (m:Nat)=>x.getD m 0
 let A:=fun(x:List Int)=>e x=e x/\ ∀(i:Nat),i<e x->sm (h x i)/\True
 let B:=ab 12 True
 let p:=([]:List (Option (Nat×Nat)))
 let C:=2=f.n
 let k:=fun(x:List Int) (m:Int)=>x.getD m.toNat 0
 let u:=fun(x:Int)=>0+x.toNat
 let q:=fun(x:Nat) (m:Int)=>decide (x=u m)
 let r:=fun(x m:List Int) (x1:Int)=>ah f (e x) fun i'=>af (q i' x1) (cE (f.enc (m.getD (u x1) 0)) 0 (zc (k x x1))) (f.enc (h m i'))
 let D:=fun(x:Nat) (m:Int) (x1 y1:List Int)=>if q x m=true then(dz (k x1 m)).length else(dz (h y1 x)).length
 let v:=aF IntKind.u32
 let w:=true=true
 let E:=fun(x:List Int) (m:Nat)=>f.enc (x.getD (0+m) 0)
 let y:=fun(x m:List Int)=>ah f (g x) fun i=>E m i
 let o:=fun(x m:List Int)=>(ae (y x m)).length
 let s:=fun(x m:List Int) (x1:Nat)=>(ae (y x m)).getD (0+x1) 0
 True/\(d c=d c/\(0:Int)<=d c/\d c<=(9223372036854775807:Int)/\(32:Int)*d c<=(281474976710656:Int))/\ab (2:Nat) ((iE c (0:Int) (t c)
  /\ab (3:Nat) (z c/\ab (5:Nat) (A c/\d c=d c/\sm (0:Int)/\B))/\p=p/\((g c=e c/\C/\ ∀(i:Nat),i<g c->decide ((t c).getD i (0:Int)<(0
  :Int))=false/\(dz ((t c).getD i (0:Int))).length=(0:Nat)/\True)/\True)/\True)/\ ∀(n:Int) (l:List Int),iE c n l->True/\(decide (n<d c)
  =true->((0:Int)<=n/\n<d c)/\ab (2:Nat) ((True/\fN (k c n))/\((0:Int)<=n/\n< ↑(g c))/\u n<e c/\ab (2:Nat) (iE c (W (n+(1:Int)))
  (r c l n)/\(d c-W (n+(1:Int))).toNat<(d c-n).toNat/\ab (3:Nat) (z c/\ab (5:Nat) (A c/\d c=d c/\sm (W (n+(1:Int)))/\B))/\p=p/\((e
  c=e c/\C/\ ∀(i:Nat),i<e c->(if q i n=true then decide (k c n<(0:Int))else decide (h l i<(0:Int)))=decide ((r c l n).getD i (0:Int)<(0
  :Int))/\(D i n c l=(dz ((r c l n).getD i (0:Int))).length/\ ∀(i_1:Nat),i_1<D i n c l->bK (if q i n=true then v.enc ((dz (k c n)).getD i_1 (0:Int))
  else v.enc ((dz (h l i)).getD i_1 (0:Int))) (v.enc ((dz ((r c l n).getD i (0:Int))).getD i_1 (0:Int))))/\True)/\True)/\True)))/\(decide (n<d c)=false
  ->((0:Nat)+g c<=e c/\ ∀(i:Nat),i<e c->w)/\((∀(i:Nat),i<g c->w/\f.ak ((fun(j:Nat)=>aj.enc (l.getD j (0:Int))) ((0:Nat)+i)))/\
  cr (y c l))/\True/\((0:Nat)+o c l<=o c l/\ ∀(i:Nat),i<o c l->w)/\(o c l=(ae c).length/\ ∀(i:Nat),i<o c l->decide (s c l i<(0:Int))
  =decide ((ae c).getD i (0:Int)<(0:Int))/\((dz (s c l i)).length=(dz ((ae c).getD i (0:Int))).length/\ ∀(i_1:Nat),i_1<(dz (s c l i)).length
  ->(dz (s c l i)).getD i_1 (0:Int)=(dz ((ae c).getD i (0:Int))).getD i_1 (0:Int)/\True)/\True)/\True)))=Ti c:=by kernel_rfl
theorem O0 (p:List Int) (q:List Int):(
 let o:=fun(x:List Int)=>x.length
 let w:=true=true
 let c:=aj
 let y:=fun(x:List Int) (m:Nat)=>c.enc (x.getD m 0)
 let P:=fun(x:List Int)=>ah c (o x) (y x)
 let Q:=fun(x:List Int)=>(∀(i:Nat),i<o x->w/\c.ak (y x i))/\cr (P x)
 let e:=fun(x:List Int)=>W (↑(tl (P x))-1+1)
 let z:=fun(x:List Int)=>e x==0
 let R:=fun(x m:List Int)=>(bX x m).length=0/\True
 let r:=fun(x m:List Int)=>W (W (e x+e m)-1)
 let d:=fun(x m:List Int)=>tl x+tl m-1
 let H:=fun(m x1:List Int)=>ah c (d m x1) fun x=>[SV.ff,SV.aq]
 let J:=fun(x:List Int) (m:Nat)=>decide (x.getD m 0<0)
 let s:=fun(x:List Int) (m:Nat)=>(dz (x.getD m 0)).length
 let K:=fun(x:List Int) (m x1:Nat)=>(dz (x.getD m 0)).getD x1 0
 let f:=fun(x:List Int)=>o x=o x/\ ∀(i:Nat),i<o x->sm (J x i)/\(sm (s x i)/\ ∀(i_1:Nat),i_1<s x i->sm (K x i i_1)/\True)/\True
 let g:=fun(x:List Int)=>sm (e x)
 let k:=fun(x m:List Int)=>(r x m).toNat
 let A:=fun(x m:List Int)=>sm 0/\sm (k x m)
 let T:=sm (0:Int)
 let c0:=ab 51 True
 let c1:=([]:List (Option (Nat×Nat)))
 let L:=c1=c1
 let M:=c.n
 let c2:=2=M
 let t:=fun(x m x1:List Int)=>ah c (d x m) (y x1)
 let c3:=ab 50 True
 let c4:=fun(x m x1:List Int)=>L/\((sm (d x m)/\M=M/\ ∀(i:Nat),i<d x m->J x1 i=decide ((t x m x1).getD i 0<0)/\(s x1 i=(dz ((t x m x1).getD
  i 0)).length/\ ∀(i_1:Nat),i_1<s x1 i->K x1 i i_1=(dz ((t x m x1).getD i 0)).getD i_1 0/\True)/\True)/\True)/\True
 let c5:=fun(x m:Int) (x1 y1:List Int)=>0<=W (x+m)/\W (x+m)< ↑(k x1 y1)
 let B:=fun(x m:Int)=>0+(W (x+m)).toNat
 let c6:=fun(x:Int) (m:List Int)=>0<=x/\x< ↑(o m)
 let c7:=fun(x:List Int) (m:Int)=>c.ak (zc (x.getD m.toNat 0))
 let h:=fun(x:List Int) (m:Int)=>zz (x.getD m.toNat 0)
 let C:=fun(x:List Int) (m x1:Int)=>x.getD (B m x1) 0
 let u:=fun(x:Int)=>W (x+1)
 let D:=fun(x:Nat) (m x1:Int)=>decide (x=B m x1)
 let E:=fun(x m x1:List Int) (y1 u1:Int)=>zz (C x y1 u1)+zz (h m y1*h x1 u1)
 let F:=fun(x m x1:List Int) (y1 u1:Int)=>ah c (d x m) fun i'=>af (D i' y1 u1) (cE (c.enc (C x1 y1 u1)) 0 (zc (E x1 x m y1 u1))) (y x1 i')
 let c8:=fun(x:List Int) (m:Int)=>(↑(tl x)-u m).toNat<(↑(tl x)-m).toNat
 let c9:=fun(x:Nat) (m x1:Int) (y1 u1 v1:List Int)=>if D x m x1=true then(dz (E y1 u1 v1 m x1)).length else s y1 x
 let N:=aF IntKind.u32
 let d0:=fun(x:List Int) (m:Nat)=>c.enc (x.getD (0+m) 0)
 let G:=fun(x m x1:List Int)=>ah c (k x m) fun i=>d0 x1 i
 let v:=fun(x m x1:List Int)=>(ae (G x m x1)).length
 let O:=fun(x m x1:List Int) (y1:Nat)=>dz ((ae (G x m x1)).getD (0+y1) 0)
 ab 2 (Q p/\True/\Q q/\True/\(z p=true->ab 3 (R p q))/\(z p=false->True/\(z q=true->ab 2 (R p q))/\(z q=false->(sm (r p q)/\0<=r p q/\r p
  q<=9223372036854775807/\32*r p q<=281474976710656)/\ab 2 ((gM p q 0 (H p q)/\(f p/\f q/\ab 3 (g p/\g q/\A p q/\T/\c0))/\L/\((k p q=d p q/\
  c2/\ ∀(i:Nat),i<k p q->decide ((H p q).getD i 0<0)=false/\(dz ((H p q).getD i 0)).length=0/\True)/\True)/\True)/\ ∀(n:Int) (l:List Int),gM
  p q n l->True/\(decide (n<e p)=true->True/\(dW p q n 0 (t p q l)/\(f p/\f q/\ab 3 (g p/\g q/\A p q/\n=n/\T/\c3))/\c4 p q l)/\ ∀(n_1:Int)
  (l:List Int),dW p q n n_1 l->True/\(decide (n_1<e q)=true->c5 n n_1 p q/\B n n_1<d p q/\c6 n p/\c6 n_1 q/\ab 2 (((c7 p n/\c7 q n_1)/\fit
  (h p n)/\fit (h q n_1))/\ab 2 (((c.ak (zc (C l n n_1))/\c.ak (zc (h p n*h q n_1)))/\fit (zz (C l n n_1))/\fit (zz (h p n*h q n_1)))/\c5 n n_1 p q
  /\B n n_1<d p q/\ru true/\True/\dW p q n (u n_1) (F p q l n n_1)/\c8 q n_1/\(f p/\f q/\ab 3 (g p/\g q/\A p q/\n=n/\sm (u n_1)/\c3))/\L/\
  ((sm (d p q)/\c2/\ ∀(i:Nat),i<d p q->(if D i n n_1=true then decide (E l p q n n_1<0)else J l i)=decide ((F p q l n n_1).getD i 0<0)/\(c9 i n n_1
  l p q=(dz ((F p q l n n_1).getD i 0)).length/\ ∀(i_1:Nat),i_1<c9 i n n_1 l p q->bK (if D i n n_1=true then N.enc ((dz (E l p q n n_1)).getD i_1 0)else
  N.enc (K l i i_1)) (N.enc ((dz ((F p q l n n_1).getD i 0)).getD i_1 0)))/\True)/\True)/\True)))/\(decide (n_1<e q)=false->True/\gM p q (u n) (t p q
  l)/\c8 p n/\(f p/\f q/\ab 3 (g p/\g q/\A p q/\sm (u n)/\c0))/\c4 p q l))/\(decide (n<e p)=false->(0+k p q<=d p q/\ ∀(i:Nat),i<d p q->w)
  /\((∀(i:Nat),i<k p q->w/\c.ak ((fun(j:Nat)=>aj.enc (l.getD j 0)) (0+i)))/\cr (G p q l))/\True/\(0+v p q l<=v p q l/\ ∀(i:Nat),i<
  v p q l->w)/\(v p q l=(bX p q).length/\ ∀(i:Nat),i<v p q l->decide ((ae (G p q l)).getD (0+i) 0<0)=decide ((bX p q).getD i 0<0)/\((O
  p q l i).length=(dz ((bX p q).getD i 0)).length/\ ∀(i_1:Nat),i_1<(O p q l i).length->(O p q l i).getD i_1 0=(dz ((bX p q).getD i 0)).getD i_1
  0/\True)/\True)/\True))))))=SJ p q:=by kernel_rfl
theorem Pm (p:List Int):(
 let c:=fun(m:List Int)=>m.length
 let x:=fun(m:List Int) (x1:Nat)=>decide (m.getD x1 0<0)
 let s:=fun(m:List Int) (x1:Nat)=>(dz (m.getD x1 0)).length
 let y:=fun(m:List Int)=>c m=c m/\ ∀(i:Nat),i<c m->sm (x m i)/\(sm (s m i)/\ ∀(i_1:Nat),i_1<s m i->sm ((dz (m.getD i 0)).getD i_1 0)/\True)
  /\True
 let g:=sm 0
 let z:=ab 18 True
 let d:=aj
 let t:=d.n
 let h:=true=true
 let u:=fun(m:List Int) (x1:Nat)=>d.enc (m.getD x1 0)
 let A:=fun(m:List Int)=>ah d (c m) (u m)
 let B:=fun(m:Int) (x1:List Int)=>decide (m<= ↑(tl (A x1))-1)
 let e:=fun(m:List Int)=>c m+1
 let o:=fun(m:Nat) (x1:List Int)=>decide (m<c x1)
 let q:=fun(m:List Int) (x1:Int)=>zz (m.getD x1.toNat 0)*zz x1
 let f:=fun(m x1:List Int) (y1:Int)=>ah d (e m) fun j=>af (o j m) (u m j) (zc (q x1 y1))
 let C:=([]:List (Option (Nat×Nat)))
 let D:=fun(m:Nat) (x1 y1:List Int) (u1:Int)=>if o m x1=true then s x1 m else(dz (q y1 u1)).length
 let v:=aF IntKind.u32
 let E:=fun(m:List Int) (x1:Nat)=>d.enc (m.getD (0+x1) 0)
 let w:=fun(m:List Int)=>ah d (c m) fun i=>E m i
 let k:=fun(m:List Int)=>(ae (w m)).length
 let r:=fun(m:List Int) (x1:Nat)=>(ae (w m)).getD (0+x1) 0
 ab (3:Nat) ((mH p (1:Int) []/\(y p/\ab (2:Nat) ((g/\g)/\sm (1:Int)/\z))/\g/\t=t/\True)/\ ∀(n:Int) (l:List Int),mH p n l->True
  /\((∀(i:Nat),i<c p->h/\d.ak (u p i))/\cr (A p))/\True/\(B n p=true->((0:Int)<=n/\n< ↑(c p))/\True/\(True/\fN n)/\ab (2:Nat) (((d.ak
  (zc (p.getD n.toNat (0:Int)))/\d.ak (zc n))/\fit (zz (p.getD n.toNat (0:Int)))/\fit (zz n))/\(1:Nat)<=(1:Nat)/\(∀(j:Nat),j<(1:Nat)->h)/\
  (g/\c l=c l/\e l<=(140737488355328:Nat)/\e l*(32:Nat)<=(140737488355328:Nat))/\ru true/\True/\mH p (W (n+(1:Int))) (f l p n)/\(↑(tl p)
  -W (n+(1:Int))).toNat<(↑(tl p)-n).toNat/\(y p/\ab (2:Nat) ((g/\e l=(f l p n).length)/\sm (W (n+(1:Int)))/\z))/\C=C/\((e l=(f l p n).length
  /\(2:Nat)=t/\ ∀(i:Nat),i<e l->(if o i l=true then x l i else decide (q p n<(0:Int)))=decide ((f l p n).getD i (0:Int)<(0:Int))/\(D i l
  p n=(dz ((f l p n).getD i (0:Int))).length/\ ∀(i_1:Nat),i_1<D i l p n->bK (if o i l=true then v.enc ((dz (l.getD i (0:Int))).getD i_1 (0:Int))
  else v.enc ((dz (q p n)).getD i_1 (0:Int))) (v.enc ((dz ((f l p n).getD i (0:Int))).getD i_1 (0:Int))))/\True)/\True)/\True))/\(B n p=false->((0:Nat)
  +c l<=c l/\ ∀(i:Nat),i<c l->h)/\((∀(i:Nat),i<c l->h/\d.ak ((fun(j:Nat)=>aj.enc (l.getD j (0:Int))) ((0:Nat)+i)))/\cr (w l))/\
  True/\((0:Nat)+k l<=k l/\ ∀(i:Nat),i<k l->h)/\(k l=(aX p).length/\ ∀(i:Nat),i<k l->decide (r l i<(0:Int))=decide ((aX p).getD i
  (0:Int)<(0:Int))/\((dz (r l i)).length=(dz ((aX p).getD i (0:Int))).length/\ ∀(i_1:Nat),i_1<(dz (r l i)).length->(dz (r l i)).getD i_1 (0:Int)
  =(dz ((aX p).getD i (0:Int))).getD i_1 (0:Int)/\True)/\True)/\True)))=Sp p:=by kernel_rfl
theorem Lr (p:List Int):(
 let e:=fun(x:List Int)=>(↑x.length:Int)
 let j:=fun(x:List Int)=>decide (e x>0)
 let f:=fun(x:List Int)=>W (e x-1)
 let c:=aj
 let g:=fun(x:List Int)=>x.getD (f x).toNat 0
 let k:=fun(x:List Int)=>decide (aW (zz (g x))<0)
 let t:=fun(x:List Int)=>fun i=>c.enc (x.getD i 0)
 let d:=fun(x:List Int)=>ah c x.length (t x)
 let o:=fun(x:List Int) (y:Nat)=>decide ((iN x).getD y 0<0)
 let h:=fun(x:List Int) (y:Nat)=>dz ((dH (d x)).getD y 0)
 let q:=fun(x:List Int) (y:Nat)=>(dz ((iN x).getD y 0)).length
 let r:=fun(x:List Int) (y u:Nat)=>(dz ((iN x).getD y 0)).getD u 0
 let s:=fun(x:List Int)=>(x.length=(iN x).length/\ ∀(i:Nat),i<x.length->decide (x.getD i 0<0)=o x i/\((dz (x.getD i 0)).length=q x i/\ ∀
  (i_1:Nat),i_1<(dz (x.getD i 0)).length->(dz (x.getD i 0)).getD i_1 0=r x i i_1/\True)/\True)/\True
 ab 2 ((j p=true->(0<=f p/\f p<e p)/\True/\(c.ak (zc (g p))/\fit (zz (g p)))/\True/\(k p=true->True/\((∀(i:Nat),i<p.length->true=true
  /\c.ak (c.enc (p.getD i 0)))/\cr (d p))/\ab 2 (((dH (d p)).length=(iN p).length/\ ∀(i:Nat),i<(dH (d p)).length->decide ((dH (d p)).getD i
  0<0)=o p i/\((h p i).length=q p i/\ ∀(i_1:Nat),i_1<(h p i).length->(h p i).getD i_1 0=r p i i_1/\True)/\True)/\True))/\(k p=false->ab 2 (s
  p)))/\(j p=false->ab 3 (s p))))=Tq p:=by kernel_rfl
theorem Nb {c:List Int} (h:lR c):c.length<=1000:=by unfold lR at h;exact h.1
theorem Hi :fN 0:=by unfold fN;omega
theorem OM {c:List Int} (h:lR c) (i:Nat):fN (c.getD i 0):=by unfold lR at h;exact uG Hi h.2 i
theorem Nm {z:Int} (h:fN z):(z.natAbs:Int)<pw 2:=by
 have:=Nt h;have p2:pw 2=18446744073709551616:=by rw [fE];rfl
 omega
theorem wZ {c:List Int} (h:lR c):bj 2 c:=by unfold lR at h;exact jd h.1 fun z hz=>Nm (h.2 z hz)
theorem fZ {k:Nat} {p:List Int} (h:bj k p):bj k (ae p):=by
 unfold bj at*
 refine⟨by rw [bn];have:=cX p;omega,fun z hz=>h.2 z ?_⟩;rw [dq]at hz;exact Zg hz
theorem Df {k:Nat} {p:List Int} (h:bj k p):bj k (dH p):=by
 unfold bj at*
 refine⟨by rw [jz];exact h.1,fun z hz=> ?_⟩;unfold dH at hz;obtain⟨x,hx,rfl⟩:=Kh.1 hz;have:=h.2 x hx;omega
theorem Aw {p:List Int} (h:cr p):cr (ae p):=by
 unfold cr at*
 refine⟨by rw [bn];have:=cX p;omega,fun z hz=>h.2 z ?_⟩;rw [dq]at hz;exact Zg hz
theorem nr {l m:List Int} (h:l=m):l.length=m.length/\ ∀i,i<l.length->(l.getD i 0<0↔m.getD i 0<0)/\(dz (l.getD i 0)).length=(dz (m.getD i 0)).length/\ ∀j:Nat,j<(dz (l.getD i 0)).length->(dz (l.getD i 0)).getD j 0=(dz (m.getD i 0)).getD j 0:=by
 subst h;exact⟨rfl,fun _ _=>⟨J9,rfl,fun _ _=>rfl⟩⟩
theorem wy (l:List Int) (n:Nat): ∀i,i<n->(l.getD i 0<0↔l.getD i 0<0)/\(dz (l.getD i 0)).length=(dz (l.getD i 0)).length/\ ∀j:Nat,j<(dz (l.getD i 0)).length->(dz (l.getD i 0)).getD j 0=(dz (l.getD i 0)).getD j 0:=fun _ _=>⟨J9,rfl,fun _ _=>rfl⟩
theorem pushZ (l:List Int) (v:Int):ah aj (l.length+1) (fun j=>af (decide (j<l.length)) (aj.enc (l.getD j 0)) (zc v))=l++[v]:=vQ (Ia v)
theorem Zu {l:List Int} {v:Int}: ∀i,i<l.length+1->
 (if i<l.length then decide (l.getD i 0<0)else decide (v<0))=decide ((l++[v]).getD i 0<0)/\(if i<l.length then(dz (l.getD i 0)).length else(dz v).length)=(dz ((l++[v]).getD i 0)).length/\
  ∀j:Nat,(j<if i<l.length then(dz (l.getD i 0)).length else(dz v).length)->bK (if i<l.length then [SV.int .u32 ((dz (l.getD i 0)).getD j 0)]else [SV.int .u32 ((dz v).getD j 0)]) [SV.int .u32 ((dz ((l++[v]).getD i 0)).getD j 0)]:=by
 intro i hi;rw [gD hi];have le: ∀x:Int,bK [SV.int .u32 x] [SV.int .u32 x]:=fun x=>⟨vX rfl,trivial⟩
 by_cases h:i<l.length
 . rw [if_pos h,if_pos h,if_pos h];exact⟨rfl,rfl,fun j _=>by rw [if_pos h];exact le _⟩
 . rw [if_neg h,if_neg h,if_neg h];exact⟨rfl,rfl,fun j _=>by rw [if_neg h];exact le _⟩
theorem rk (p q:List Int) (j:Nat):mulC p q j 0=0:=by unfold mulC;rfl
theorem kI (p q:List Int) (j i:Nat):mulC p q j (i+1)=mulC p q j i+if i<=j then p.getD i 0*q.getD (j-i) 0 else 0:=by rw [mulC]
theorem bQ {x y a b:Int} (hx:(x.natAbs:Int)<a) (hy:(y.natAbs:Int)<b):((x*y).natAbs:Int)<=a*b:=by
 rw [Int.natAbs_mul,Int.natCast_mul];exact Qb (by omega) (by omega) (by omega) (by omega)
theorem C9 {p q:List Int} {k:Nat} (hp:bj k p) (hq:bj k q) (i j:Nat):((p.getD i 0*q.getD j 0).natAbs:Int)<=pw (k+k):=by
 rw [gG];exact bQ (bU hp i) (bU hq j)
theorem I9 {p q:List Int} {k:Nat} (hp:bj k p) (hq:bj k q) (j i:Nat):((mulC p q j i).natAbs:Int)<=i*pw (k+k):=by
 induction i with
 |zero=>rw [rk];simp
 |succ i ih=>
  rw [kI];have h1:=C9 hp hq i (j-i);have e:((i+1:Nat):Int)*pw (k+k)=i*pw (k+k)+pw (k+k):=by rw [Int.natCast_add,Qo];simp
  have h2:=aE (k+k);rw [e];split<;>omega
theorem qu (p q:List Int) (N i k:Nat):(pM p q N i k).length=N:=by unfold pM;simp
theorem xm (p q:List Int) (N i:Nat):(tu p q N i).length=N:=by unfold tu;simp
theorem Bu (p q:List Int) {N i k j:Nat} (h:j<N):(pM p q N i k).getD j 0=mulC p q j i+if i<=j/\j-i<k then p.getD i 0*q.getD (j-i) 0 else 0:=by
 unfold pM;rw [J0,J5,Q9 h];rfl
theorem JS (p q:List Int) (N i:Nat):pM p q N i 0=tu p q N i:=by
 unfold pM tu;refine Xl fun j _=> ?_
 simp
theorem O7 (p q:List Int) (N i:Nat):pM p q N i (tl q)=tu p q N (i+1):=by
 unfold pM tu;refine Xl fun j _=> ?_
 rw [kI]
 congr 1
 by_cases h1:i<=j
 . by_cases h2:j-i<tl q
   . rw [if_pos ⟨h1,h2⟩,if_pos h1]
   . rw [if_neg (fun h=>h2 h.2),if_pos h1,fK (Nat.le_of_not_lt h2)];simp
 . rw [if_neg (fun h=>h1 h.1),if_neg h1]
theorem Lc {p q:List Int} {N i k:Nat} (h:i+k<N):(pM p q N i k).set (i+k) ((pM p q N i k).getD (i+k) 0+p.getD i 0*q.getD k 0)=pM p q N i (k+1):=by
 apply Xc;intro j
 by_cases hj:j<N
 . rw [K6];have e1:(pM p q N i (k+1))[j]?=some (mulC p q j i+if i<=j/\j-i<k+1 then p.getD i 0*q.getD (j-i) 0 else 0):=by
    unfold pM;rw [J5,Q9 hj];rfl
   have e2:(pM p q N i k)[j]?=some (mulC p q j i+if i<=j/\j-i<k then p.getD i 0*q.getD (j-i) 0 else 0):=by
    unfold pM;rw [J5,Q9 hj];rfl
   rw [e1,e2]
   by_cases hjk:i+k=j
   . subst hjk;rw [if_pos rfl,if_pos (by rw [qu];exact hj),Bu _ _ hj,if_neg (by omega),if_pos (by omega),show i+k-i=k by omega];simp
   . rw [if_neg hjk]
     congr 2
     by_cases h1:i<=j/\j-i<k
     . rw [if_pos h1,if_pos (by omega)]
     . rw [if_neg h1,if_neg (by omega)]
 . rw [J7 (by rw [Ks,qu];omega),J7 (by rw [qu];omega)]
theorem Uc :aH Tryz.prog VT:=av UL hm Tryz.func229 (by kernel_rfl) (by kernel_rfl) Hs.ok (by kernel_rfl) (fun _=>[]) fun a hp=>by
 have h:Sd a.1 a.2:=by
  rw [<-MY];simp only [aA];obtain⟨p,q⟩:=a
  try dsimp only at hp
  have fq:=bu hp.2 (by omega);have sn:=Df (fZ hp.2);simp [-List.getD_eq_getElem?_getD,hp,fq,Aw fq,sn];exact nr (by unfold dJ;rfl)
 exact h
theorem yJ {p:List Int} {i:Int} {out:List Int} (h:iE p i out):out.length=p.length:=by
 unfold iE at h;obtain⟨h1,h2,rfl⟩:=h;simp;omega
theorem MP (p:List Int):iE p 0 (List.replicate p.length 0):=by unfold iE;simp
theorem D3 {p:List Int} {i:Int} {out:List Int} (h:iE p i out) (hi:i<p.length):iE p (i+1) (out.set i.toNat (p.getD i.toNat 0)):=by
 unfold iE at h⊢;obtain⟨h1,h2,h3⟩:=h;refine⟨by omega,by omega,?_⟩;rw [h3,kO (by omega),cG (by simp;omega),show(i+1).toNat=i.toNat+1 by omega,X4,J0,J4 (show i.toNat<p.length by omega),show p.length-(i.toNat+1)=p.length-i.toNat-1 by omega];simp only [K5,Y4,Jq,Xj]
theorem k230 :aH Tryz.prog VC:=av Uc hm Tryz.func230 (by kernel_rfl) (by kernel_rfl) sIs.ok (by kernel_rfl) (fun a=>a230 a) fun a hp=>by
 have h:Ti a:=by
  rw [<-LP];simp only [aA];generalize a=c at*
  try dsimp only at hp
  have hl:=Nb hp;simp [-List.getD_eq_getElem?_getD,OM hp];refine⟨by omega,⟨MP c,fun i hi=>Bg _ i (by omega)⟩,fun n l hinv=>⟨fun hn=> ?_,fun hn=> ?_⟩⟩
  . have hlen:=yJ hinv;have hn0:0<=n:=by unfold iE at hinv;exact hinv.1
    rw [aG (n:=n+1) (by omega) (by omega),uK hlen.symm];have:=D3 hinv (by omega)
    and_intros<;>first|omega|assumption|exact jK (by simp) hlen.symm
  . have hlen:=yJ hinv;have e:l=c:=by
     unfold iE at hinv;obtain⟨h1,h2,h3⟩:=hinv;rw [h3,show n.toNat=c.length by omega];simp
    rw [lE (by omega),e];exact⟨bu (wZ hp) (by omega),nr rfl⟩
 exact h
theorem zR {p q:List Int} {i:Int} {out:List Int} (h:gM p q i out):out.length=tl p+tl q-1:=by
 unfold gM at h;rw [h.2.2,xm]
theorem wA {p q:List Int} {i k:Int} {out:List Int} (h:dW p q i k out):out.length=tl p+tl q-1:=by
 unfold dW at h;rw [h.2.2.2.2,qu]
theorem Mk (p q:List Int):gM p q 0 (List.replicate (tl p+tl q-1) 0):=by
 unfold gM;refine⟨by omega,by omega,?_⟩;unfold tu;simp only [Ql,rk,List.map_const',Zd]
theorem JX {p q:List Int} {i:Int} {out:List Int} (h:gM p q i out) (hi:i<tl p):dW p q i 0 out:=by
 unfold gM at h;unfold dW;exact⟨h.1,hi,by omega,by omega,by rw [h.2.2];exact(JS _ _ _ _).symm⟩
theorem GY {p q:List Int} {i k:Int} {out:List Int} (h:dW p q i k out) (hk:(tl q:Int)<=k):gM p q (i+1) out:=by
 unfold dW at h;unfold gM;obtain⟨h1,h2,h3,h4,h5⟩:=h;exact⟨by omega,by omega,by rw [h5,show k.toNat=tl q by omega,O7,show(i+1).toNat=i.toNat+1 by omega]⟩
theorem Hg {p q:List Int} {i:Int} {out:List Int} (h:gM p q i out) (hi:(tl p:Int)<=i):out=tu p q (tl p+tl q-1) (tl p):=by
 unfold gM at h;rw [h.2.2,show i.toNat=tl p by omega]
theorem Cp {p q:List Int} {i k:Int} {out:List Int} (h:dW p q i k out) (hk:k<tl q):dW p q i (k+1) (out.set (i+k).toNat (out.getD (i+k).toNat 0+p.getD i.toNat 0*q.getD k.toNat 0)):=by
 unfold dW at h⊢;obtain⟨h1,h2,h3,h4,h5⟩:=h;refine⟨h1,h2,by omega,by omega,?_⟩;rw [h5,show(i+k).toNat=i.toNat+k.toNat by omega,Lc (by omega),show(k+1).toNat=k.toNat+1 by omega]
theorem Hu {p q:List Int} {i k:Int} {out:List Int} (hp:bj 100000 p) (hq:bj 100000 q) (h:dW p q i k out) (j:Nat):((out.getD j 0).natAbs:Int)<pw 200001:=by
 have lp:=jm hp;have tp:=cX p;have pp:=aE 200000;unfold dW at h;obtain⟨h1,h2,h3,h4,h5⟩:=h
 by_cases hj:j<tl p+tl q-1
 . rw [h5,Bu _ _ hj];have hb:=I9 hp hq j i.toNat;rw [show(100000+100000:Nat)=200000 from rfl]at hb;have h6:(i.toNat:Int)*pw 200000<=1000*pw 200000:=Jh (by omega) (by omega);have h7:=C9 hp hq i.toNat (j-i.toNat);rw [show(100000+100000:Nat)=200000 from rfl]at h7;rw [bD];split<;>omega
 . rw [h5,J0,J7 (by rw [qu];omega)];have:=aE 200001;simpa
theorem WJ :aH Tryz.prog VG:=av k230 hm Tryz.func292 (by kernel_rfl) (by kernel_rfl) Hs.ok (by kernel_rfl) (fun a=>XO a.1 a.2) fun a hp=>by
 have h:SJ a.1 a.2:=by
  rw [<-O0];simp only [aA];obtain⟨p,q⟩:=a
  try dsimp only at hp
  obtain⟨hp1,hp2,hpl⟩:=hp;have hp:bj 100000 p/\bj 100000 q:=⟨hp1,hp2⟩;have lp:=jm hp.1;have lq:=jm hp.2;have tp:=cX p;have tq:=cX q;have fp:=bu hp.1 (by omega);have fq:=bu hp.2 (by omega);have e2:(100000+100000:Nat)=200000:=rfl;simp [-List.getD_eq_getElem?_getD,fp,fq,cP fp,cP fq];rw [aG (n:=(tl p:Int)) (by omega) (by omega),aG (n:=(tl q:Int)) (by omega) (by omega),aG (n:=(tl p:Int)+tl q) (by omega) (by omega),aG (n:=(tl p:Int)+tl q-1) (by omega) (by omega)]
  refine⟨fun h=>by unfold bX;rw [if_pos (.inl (by omega))],fun h1=>⟨fun h=>by unfold bX;rw [if_pos (.inr (by omega))],fun h2=>⟨by omega,⟨Mk p q,by omega,fun i hi=>Bg _ i (by omega)⟩,fun i l hinv=>⟨fun hi=> ?_,fun hi=> ?_⟩⟩⟩⟩
  . have hlen:=zR hinv;have hi0:0<=i:=by unfold gM at hinv;exact hinv.1
    rw [lE hlen.symm];refine⟨⟨JX hinv hi,wy _ _⟩,fun k l' hinv'=>⟨fun hk=> ?_,fun hk=> ?_⟩⟩
    . have hlen':=wA hinv';have hk0:0<=k:=by unfold dW at hinv';exact hinv'.2.2.1
      rw [aG (n:=i+k) (by omega) (by omega),aG (n:=k+1) (by omega) (by omega),uK hlen'.symm];have hst:=Cp hinv' hk;have f3:fit (l'.getD (i+k).toNat 0):=bz (Hu hp.1 hp.2 hinv' _) (by omega);have f4:fit (p.getD i.toNat 0*q.getD k.toNat 0):=bz (k:=200001) (by have h8:=C9 hp.1 hp.2 i.toNat k.toNat;rw [e2]at h8;have:=aE 200000;rw [bD];omega) (by omega)
      and_intros<;>first|omega|assumption|exact jK (by simp) hlen'.symm
    . have hlen':=wA hinv';rw [aG (n:=i+1) (by omega) (by omega),lE hlen'.symm];have:=GY hinv' hk
      and_intros<;>first|omega|assumption|exact wy _ _
  . have hlen:=zR hinv;have e:=Hg hinv hi;rw [lE (by omega)];have e2:ae l=bX p q:=by unfold bX;rw [if_neg (by omega),e]
    rw [e2];refine⟨by omega,bu (k:=200001) ?_ (by omega),nr rfl⟩;rw [e];refine jd (by rw [xm];omega) fun z hz=> ?_
    unfold tu at hz;obtain⟨j,_,rfl⟩:=Kh.1 hz;have hb:=I9 hp.1 hp.2 j (tl p);rw [show(100000+100000:Nat)=200000 from rfl]at hb;have h5:(tl p:Int)*pw 200000<=1000*pw 200000:=Jh (by omega) (by have:=aE 200000;omega);rw [bD];have:=aE 200000;omega
 exact h
theorem Cr {p:List Int} {k n:Nat} (hp:bj k p) (hn:n<=1000):bj (k+1) (lW p n):=by
 refine jd (by unfold lW;simp;exact hn) fun z hz=> ?_
 unfold lW at hz;obtain⟨j,hj,rfl⟩:=Kh.1 hz;have hj:=Kn.1 hj;have h1:=bU hp (j+1);have h2:=bQ (y:=(j:Int)+1) (b:=1001) h1 (by omega);rw [bD];have:=aE k;omega
theorem YJ :aH Tryz.prog UF:=av WJ hm Tryz.func308 (by kernel_rfl) (by kernel_rfl) sP.ok (by kernel_rfl) (fun a=>a308 a) fun a hp=>by
 have h:Sp a:=by
  rw [<-Pm];simp only [aA];generalize a=p at*
  try dsimp only at hp
  have lp:=jm hp;have tp:=cX p;have fp:=bu hp (by omega);simp [-List.getD_eq_getElem?_getD,fp,cP fp];refine⟨by unfold mH lW;simp,fun n l hinv=>⟨fun hn=> ?_,fun hn=> ?_⟩⟩
  . have hinv2:=hinv;unfold mH at hinv;obtain⟨h1,h2,h3⟩:=hinv;have hll:l.length=(n-1).toNat:=by rw [h3];unfold lW;simp
    have ni:fN n:=by unfold fN;omega
    have nf:fit n:=bz (Nm ni) (by omega);rw [aG (n:=n+1) (by omega) (by omega),pushZ];have hst:mH p (n+1) (l++[p.getD n.toNat 0*n]):=by
     unfold mH;refine⟨by omega,by omega,?_⟩;rw [h3,show(n+1-1).toNat=(n-1).toNat+1 by omega];unfold lW;rw [Q7,Qx];simp only [J8,Z2];rw [show(n-1).toNat+1=n.toNat by omega,show((n-1).toNat:Int)+1=n by omega]
    and_intros<;>first|omega|assumption|exact Zu
  . have e:l=lW p (tl p-1):=by
     unfold mH at hinv;obtain⟨h1,h2,h3⟩:=hinv;rw [h3];congr 1;omega
    have e2:ae l=aX p:=by unfold aX;rw [e]
    rw [e2,e];exact⟨bu (Cr hp (by omega)) (by omega),nr rfl⟩
 exact h
theorem YY :aH Tryz.prog Wq:=av YJ hm Tryz.func310 (by kernel_rfl) (by kernel_rfl) sP.ok (by kernel_rfl) (fun _=>[]) fun a hp=>by
 have h:Tq a:=by
  rw [<-Lr];simp only [aA];generalize a=p at*
  try dsimp only at hp
  have lp:=jC hp;simp [-List.getD_eq_getElem?_getD,hp,cP hp];refine⟨fun h=> ?_,fun h=> ?_⟩
  . rw [aG (by omega) (by omega),show((p.length:Int)-1).toNat=p.length-1 by omega];refine⟨by omega,fun h1=> ?_,fun h1=> ?_⟩
    . exact nr (by unfold iN;rw [if_pos];unfold aW at h1;split at h1;assumption;split at h1<;>omega)
    . exact nr (by unfold iN;rw [if_neg];unfold aW at h1;split at h1;omega;assumption)
  . subst h;exact nr (by unfold iN;simp)
 exact h
def lu :List Int->Nat
 |[]=>0
 |x::r=>Nat.gcd (lu r) x.natAbs
def iD (p:List Int):Int:=(lu p:Int)
def ag (p:List Int):List Int:=if 1<iD (ae p)then(ae p).map fun z=>z.tdiv (iD (ae p))else ae p
def pQ (p:List Int) (i g:Int):Prop:= -1<=i/\i<p.length/\g=(lu (p.drop (i+1).toNat):Int)
def ij (p:List Int) (i:Int) (out:List Int):Prop:=0<=i/\i<=(ae p).length/\out=((ae p).take i.toNat).map (fun z=>z.tdiv (iD (ae p)))++(ae p).drop i.toNat
attribute [irreducible] lu iD ag pQ ij
def c361 :bB:=fl sP.dec (fun a=>cr a) (fun a=>zS (iD a))
def Wx :List (Nat×bB):=(361,c361)::Wq
def XJ (p:List Int):List kM:=[⟨.unit, .list [.int .i64 (.tm 4), .N2 aj 1 0],fun _ (x:Int×Int)=>pQ p x.1 x.2,fun _ (x:Int×Int)=>(x.1+1).toNat⟩]
def SG (p:List Int):Prop:=fQ Wq Tryz.f361 (XJ p) [pS p] (zS (iD p))
def c307 :bB:=fl sP.dec (fun a=>cr a) (fun a=>frP (ag a))
def WR :List (Nat×bB):=(307,c307)::Wx
def a307 (p:List Int):List kM:=[⟨.unit, .list [.int .i64 (.tm 15), .iQ aj (ae p).length 0 0],fun _ (x:Int×List Int)=>ij p x.1 x.2,fun _ (x:Int×List Int)=>((ae p).length-x.1).toNat⟩]
def S7 (p:List Int):Prop:=fQ Wx Tryz.f307 (a307 p) [pS p] (frP (ag p))
theorem P1 (p:List Int):(
 let e:=fun(x:List Int)=>(↑x.length:Int)
 let f:=fun(x:List Int)=>x.length=x.length/\ ∀(i:Nat),i<x.length->sm (decide (x.getD i 0<0))/\(sm (dz (x.getD i 0)).length/\ ∀(i_1:Nat),i_1
  <(dz (x.getD i 0)).length->sm ((dz (x.getD i 0)).getD i_1 0)/\True)/\True
 let g:=ab 19 True
 let h:=List.map ar.shape ([ar.s SV.ff]++([ar.s SV.aq]++[]))
 let d:=h=h
 let j:=ab 2 True
 let k:=fun(x:Int)=>decide (x>=0)
 let o:=fun(x:Int)=>bl (zz x) !=1
 let c:=fun(x y:Int) (u:List Int)=>(↑((zz x).gcd (zz (u.getD y.toNat 0))):Int)
 let q:=fun(x:Int) (y:List Int)=>(decide (x<0)=decide (iD y<0)/\((dz x).length=(dz (iD y)).length/\ ∀(i:Nat),i<(dz x).length->(dz x).getD
  i 0=(dz (iD y)).getD i 0/\True)/\True)/\True
 ab 3 ((pQ p (W (e p-1)) 0/\(f p/\ab 3 (sm (W (e p-1))/\g))/\d/\j/\d/\(false=false/\sm 0/\True)/\True)/\ ∀(n a:Int),pQ p n a->(k n
  =true->True/\(aj.ak (zc a)/\fit (zz a))/\True/\(o a=true->(0<=n/\n<e p)/\ab 2 (((aj.ak (zc a)/\aj.ak (zc (p.getD n.toNat 0)))/\fit (zz
  a)/\fit (zz (p.getD n.toNat 0)))/\ru true/\True/\pQ p (W (n-1)) (zz (c a n p))/\(W (n-1)+1).toNat<(n+1).toNat/\(f p/\ab 3 (sm (W (n-1))
  /\g))/\d/\j/\d/\(decide (c a n p<0)=decide (zz (c a n p)<0)/\((dz (c a n p)).length=(dz (zz (c a n p))).length/\ ∀(i:Nat),i<(dz (c a n p)).length
  ->(dz (c a n p)).getD i 0=(dz (zz (c a n p))).getD i 0/\True)/\True)/\True))/\(o a=false->ab 2 (q a p)))/\(k n=false->ab 3 (q a p))))=SG p:=by kernel_rfl
theorem Of (p:List Int):(
 let k:=true=true
 let d:=aj
 let B:=fun(m:List Int) (s:Nat)=>d.enc (m.getD s 0)
 let h:=fun(m:List Int)=>ah d m.length (B m)
 let c:=fun(m:List Int)=>(ae (h m)).length
 let E:=fun(m:List Int)=>0+c m<=c m
 let F:=fun(m:List Int) (s:Nat)=>(fun(i:Nat)=>aj.enc ((ae (ah aj m.length fun i=>aj.enc (m.getD i 0))).getD i 0)) (0+s)
 let c1:=fun(m:List Int) (s:Nat)=>d.enc ((ae (h m)).getD (0+s) 0)
 let G:=fun(m:List Int)=>ah d (c m) fun i=>c1 m i
 let f:=fun(m:List Int)=>iD (G m)
 let q:=aF IntKind.u32
 let H:=fun(m:List Int)=>d.ak (zc (f m))
 let o:=fun(m:List Int)=>zz (f m)
 let J:=fun(m:List Int)=>decide (bl (o m)>1)
 let e:=fun(m:List Int)=>(ae m).length
 let c2:=fun(m:List Int) (s:Nat)=>d.enc ((ae (h m)).getD s 0)
 let r:=fun(m:List Int)=>ah d (e m) fun i=>c2 m i
 let t:=sm 0
 let g:=fun(m:List Int)=>(↑(c m):Int)
 let K:=ab 16 True
 let u:=([]:List (Option (Nat×Nat)))
 let L:=2=d.n
 let M:=fun(m:List Int) (s:Nat)=>decide ((ae (h m)).getD s 0<0)
 let C:=fun(m:List Int) (s:Nat)=>dz ((ae (h m)).getD s 0)
 let v:=fun(m:List Int) (s:Nat)=>(C m s).length
 let N:=List.map ar.shape ([ar.s SV.ff]++([ar.s SV.aq]++[]))
 let O:=fun(m:List Int)=>N=N/\(sm (decide (f m<0))/\(sm (dz (f m)).length/\ ∀(i:Nat),i<(dz (f m)).length->sm ((dz (f m)).getD i 0)/\True)/\True)
  /\True
 let w:=fun(m:Int)=>0+m.toNat
 let x:=fun(m:List Int) (s:Int)=>m.getD (w s) 0
 let y:=fun(m:Nat) (s:Int)=>decide (m=w s)
 let z:=fun(m s:List Int) (x1:Int)=>(zz (x m x1)).tdiv (o s)
 let A:=fun(m s:List Int) (x1:Int)=>ah d (e m) fun i'=>af (y i' x1) (cE (d.enc (x s x1)) 0 (zc (z s m x1))) (B s i')
 let P:=fun(m:List Int) (s:Nat)=>decide (m.getD s 0<0)
 let D:=fun(m:List Int) (s:Nat)=>(dz (m.getD s 0)).length
 let Q:=fun(m:Nat) (s:Int) (x1 y1:List Int)=>if y m s=true then(dz (z x1 y1 s)).length else D x1 m
 let j:=fun(m:List Int)=>(ag m).length
 let R:=fun(m:List Int) (s:Nat)=>decide ((ag m).getD s 0<0)
 let T:=fun(m:List Int) (s:Nat)=>(dz ((ag m).getD s 0)).length
 let c0:=fun(m:List Int) (s x1:Nat)=>(dz ((ag m).getD s 0)).getD x1 0
 ab (2:Nat) (((∀(i:Nat),i<p.length->k/\d.ak (B p i))/\cr (h p))/\True/\(E p/\ ∀(i:Nat),i<c p->k)/\E p/\(∀(i:Nat),i<c p->nonR (2
  :Nat) (F p i)=true)/\((∀(i:Nat),i<c p->k/\d.ak (F p i))/\cr (G p))/\(True/\(∀(i:Nat),i<(dz (f p)).length->(q.enc ((dz (f p)).getD i (0
  :Int))).all isI=true)/\True)/\ab (2:Nat) ((H p/\fit (o p))/\True/\(J p=true->True/\(ij p (0:Int) (r p)/\ab (3:Nat) ((t/\sm (c p))/\ab
  (10:Nat) (g p=g p/\sm (0:Int)/\K))/\u=u/\((c p=e p/\L/\ ∀(i:Nat),i<c p->M p i=decide ((r p).getD i (0:Int)<(0:Int))/\(v p i=(dz
  ((r p).getD i (0:Int))).length/\ ∀(i_1:Nat),i_1<v p i->(C p i).getD i_1 (0:Int)=(dz ((r p).getD i (0:Int))).getD i_1 (0:Int)/\True)/\True)/\True)
  /\O p)/\ ∀(n:Int) (l:List Int),ij p n l->True/\(decide (n<g p)=true->True/\((0:Int)<=n/\n<g p)/\w n<e p/\ab (2:Nat) (((d.ak (zc
  (x l n))/\H p)/\fit (zz (x l n))/\fit (o p)/\o p≠(0:Int))/\((0:Int)<=n/\n<g p)/\w n<e p/\ru true/\True/\ij p (W (n+(1:Int))) (A p l
  n)/\(↑(e p)-W (n+(1:Int))).toNat<(↑(e p)-n).toNat/\ab (3:Nat) ((t/\sm (c p))/\ab (10:Nat) (g p=g p/\sm (W (n+(1:Int)))/\K))/\u=u/\
  ((sm (e p)/\L/\ ∀(i:Nat),i<e p->(if y i n=true then decide (z l p n<(0:Int))else P l i)=decide ((A p l n).getD i (0:Int)<(0:Int))/\(Q i n
  l p=(dz ((A p l n).getD i (0:Int))).length/\ ∀(i_1:Nat),i_1<Q i n l p->bK (if y i n=true then q.enc ((dz (z l p n)).getD i_1 (0:Int))else q.enc
  ((dz (l.getD i (0:Int))).getD i_1 (0:Int))) (q.enc ((dz ((A p l n).getD i (0:Int))).getD i_1 (0:Int))))/\True)/\True)/\O p))/\(decide (n<g p)=false
  ->True/\((t/\c p=j p/\j p<=e p)/\(∀(i:Nat),i<j p->k/\P l i=R p i/\(D l i=T p i/\ ∀(i_1:Nat),i_1<D l i->(dz (l.getD i (0:Int))).getD
  i_1 (0:Int)=c0 p i i_1/\True)/\True)/\True)/\True))/\(J p=false->True/\((t/\c p=j p/\j p<=c p)/\(∀(i:Nat),i<j p->k/\M p i=R p i/\(v
  p i=T p i/\ ∀(i_1:Nat),i_1<v p i->(C p i).getD i_1 (0:Int)=c0 p i i_1/\True)/\True)/\True)/\True))))=S7 p:=by kernel_rfl
theorem GA :lu []=0:=by unfold lu;rfl
theorem ry (x:Int) (r:List Int):lu (x::r)=Nat.gcd (lu r) x.natAbs:=by rw [lu]
theorem mT (p:List Int):iD p=(lu p:Int):=by unfold iD;rfl
theorem F7 {p:List Int} (h: ∀z∈p,fit z):fit (lu p:Int):=by
 induction p with
 |nil=>rw [GA];exact qs
 |cons x r ih=>
  rw [ry]
  by_cases hx:x.natAbs=0
  . rw [hx,Nat.gcd_zero_right];exact ih fun z hz=>h z (by simp [hz])
  . refine rl (h x (by simp)) ?_;rw [Y5];exact Nat.gcd_le_right _ (by omega)
theorem Lm (p:List Int) (k:Nat):lu p∣lu (p.drop k):=by
 induction p generalizing k with
 |nil=>simp
 |cons x r ih=>
  cases k with
  |zero=>simp
  |succ k=>rw [List.drop_succ_cons,ry];exact Nat.dvd_trans (Nat.gcd_dvd_left _ _) (ih k)
theorem Li {p:List Int} {i:Nat} (h:i<p.length):lu (p.drop i)=Nat.gcd (lu (p.drop (i+1))) (p.getD i 0).natAbs:=by
 rw [Qa h,ry,J0,J4 h];rfl
theorem LG (n:Nat):(bl (n:Int)=1↔n=1)/\(1<bl (n:Int)↔1<n):=by
 unfold bl;rw [Y5];have a1:n<2^1->wL n<=1:=xJ;have a2:wL n<=1->n<2^1:=HK;have b1:n<2^0->wL n<=0:=xJ;have b2:wL n<=0->n<2^0:=HK;omega
theorem uQ {p:List Int} (h:cr p): ∀z∈p,fit z:=by unfold cr at h;exact h.2
theorem Ir {p:List Int} (h1:p.length<=1000) (h2: ∀z∈p,fit z):cr p:=by unfold cr;exact⟨h1,h2⟩
theorem zeq {x y:Int} (h:x=y):(x<0↔y<0)/\(dz x).length=(dz y).length/\ ∀i:Nat,i<(dz x).length->(dz x).getD i 0=(dz y).getD i 0:=by
 subst h;exact⟨J9,rfl,fun _ _=>rfl⟩
theorem k361 :aH Tryz.prog Wx:=av YY hm Tryz.func361 (by kernel_rfl) (by kernel_rfl) sP.ok (by kernel_rfl) (fun a=>XJ a) fun a hp=>by
 have h:SG a:=by
  rw [<-P1];simp only [aA];generalize a=p at*
  try dsimp only at hp
  have hl:=jC hp;simp [-List.getD_eq_getElem?_getD,hp];rw [show W ((p.length:Int)-1)=p.length-1 from aG (by omega) (by omega)];refine⟨?_,fun n g hinv=> ?_⟩
  . unfold pQ;refine⟨by omega,by omega,?_⟩;rw [Y6 (by omega),GA];rfl
  unfold pQ at hinv;obtain⟨h1,h2,rfl⟩:=hinv;have hf:fit (lu (p.drop (n+1).toNat):Int):=F7 fun z hz=>uQ hp z (List.mem_of_mem_drop hz)
  have hd:=Lm p (n+1).toNat;rw [aG (n:=n-1) (by omega) (by omega)];refine⟨fun hn=>⟨hf,fun hb=>⟨⟨hn,h2⟩,⟨hf,cP hp _⟩,?_,by omega⟩,fun hb=>zeq ?_⟩,fun hn=>zeq ?_⟩
  . unfold pQ;refine⟨by omega,by omega,?_⟩;have:=Li (p:=p) (i:=n.toNat) (by omega);rw [show n.toNat+1=(n+1).toNat by omega]at this;rw [show(n-1+1).toNat=n.toNat by omega,this];simp [Int.gcd]
  . rw [mT];have e:=(LG _).1.1 hb;rw [e]at hd⊢;rw [Nat.dvd_one.1 hd]
  . rw [mT,show(n+1).toNat=0 by omega];rfl
 exact h
@[simp] theorem aai (z:Int):nonR 2 (aj.enc z)=true:=by rw [uh];rfl
@[simp] theorem isI_int (k:IntKind) (n:Int):isI (.int k n)=true:=rfl
theorem fw (p:List Int):(ag p).length=(ae p).length:=by
 unfold ag;split<;>simp
theorem W9 {p:List Int} (h:cr p):fit (iD p):=by rw [mT];exact F7 (uQ h)
theorem LO (p:List Int):1<bl (iD p)↔1<iD p:=by
 rw [mT];have:=(LG (lu p)).2;omega
theorem Hj {p:List Int} {i:Int} {out:List Int} (h:ij p i out):out.length=(ae p).length:=by
 unfold ij at h;obtain⟨h1,h2,rfl⟩:=h;simp;omega
theorem Hw {p:List Int} {i:Int} {out:List Int} (hp:cr (ae p)) (h:ij p i out) (k:Nat):fit (out.getD k 0):=by
 unfold ij at h;obtain⟨h1,h2,rfl⟩:=h;refine uG qs (fun z hz=> ?_) k;rcases Xt.1 hz with hz|hz
 . obtain⟨x,hx,rfl⟩:=Kh.1 hz;refine rl (uQ hp x (Zg hx)) ?_;rw [Xk];exact Za _ _
 . exact uQ hp z (List.mem_of_mem_drop hz)
theorem FY {p:List Int} {i:Int} {out:List Int} (h:ij p i out) (hi:i<(ae p).length):ij p (i+1) (out.set i.toNat ((out.getD i.toNat 0).tdiv (iD (ae p)))):=by
 unfold ij at h⊢;obtain⟨h1,h2,h3⟩:=h;refine⟨by omega,by omega,?_⟩;rw [h3,show(i+1).toNat=i.toNat+1 by omega];generalize ae p=q at*
 generalize iD q=c at*
 have hi':i.toNat<q.length:=by omega
 have hl:((q.take i.toNat).map fun z=>z.tdiv c).length=i.toNat:=by simp;omega
 have e:(((q.take i.toNat).map fun z=>z.tdiv c)++q.drop i.toNat).getD i.toNat 0=q.getD i.toNat 0:=by
  rw [J0,Jy (by omega),hl];simp [J0]
 rw [e,Qa hi',cG hl,X4,J0,J4 hi'];simp only [K5,Y4,Jq,Xj,Qx,J8,Z2]
theorem Ns {l m:List Int} (h:l=m) (n:Nat): ∀i,i<n->(l.getD i 0<0↔m.getD i 0<0)/\(dz (l.getD i 0)).length=(dz (m.getD i 0)).length/\ ∀j:Nat,j<(dz (l.getD i 0)).length->(dz (l.getD i 0)).getD j 0=(dz (m.getD i 0)).getD j 0:=by
 subst h;exact wy l n
theorem k307 :aH Tryz.prog WR:=av k361 hm Tryz.func307 (by kernel_rfl) (by kernel_rfl) sP.ok (by kernel_rfl) (fun a=>a307 a) fun a hp=>by
 have h:S7 a:=by
  rw [<-Of];simp only [aA];generalize a=p at*
  try dsimp only at hp
  have ht:=Aw hp;have hl:=jC ht;simp [-List.getD_eq_getElem?_getD,hp,ht,W9 ht,fw];refine⟨fun hb=> ?_,fun hb=> ?_⟩
  . have hc:=(LO _).1 hb;refine⟨?_,fun n l hinv=>⟨fun hn=> ?_,fun hn=> ?_⟩⟩
    . unfold ij;refine⟨by omega,by omega,?_⟩;simp
    . have hlen:=Hj hinv;have hn0:0<=n:=by unfold ij at hinv;exact hinv.1
      have hstep:=FY hinv hn;rw [aG (n:=n+1) (by omega) (by omega),uK hlen.symm];refine⟨⟨hn0,hn⟩,by omega,⟨Hw ht hinv _,by omega⟩,⟨hn0,hn⟩,by omega,hstep,by omega,jK rfl hlen.symm⟩
    . have e:l=ag p:=by
       unfold ij at hinv;obtain⟨h1,h2,h3⟩:=hinv;rw [h3,show n.toNat=(ae p).length by omega];unfold ag;rw [if_pos hc];simp
      exact Ns e _
  . have e:ae p=ag p:=by
     unfold ag;rw [if_neg fun h=>by have:=(LO _).2 h;omega]
    exact Ns e _
 exact h
end Go.Proofs.Big
