import Derived.Test.YtpjiopgakifhaaaGreatRA
import Derived.Test.YtpjiopgakifhaaaGreatRJ
import Derived.Test.YtpjiopgakifhaaaGreatRT
set_option linter.unusedSectionVars false
set_option linter.unusedSimpArgs false
set_option linter.unusedVariables false
set_option maxRecDepth 100000
namespace Go.Proofs.Big
open Go Go.Sx Go.Proofs Tryz
variable [bW]
set_option maxHeartbeats 4000000
attribute [local irreducible] lm nv tl dg dz
def sYI:=iR.cons AB sI
def sNI:=iR.cons MA sI
def vA(y:Int×Int)(e:Int):Int:=if y.2<=e then y.1*2^(e-y.2).toNat else y.1/2^(y.2-e).toNat
def TY(e:Int)(a:ao):Int:=vA a.2.2 e-vA a.2.1 e
def kU(e:Int)(a:ao):Bool:=decide (aW (TY e a)=0\/bl (TY e a)=1)
def XK(e:Int)(a:ao):Prop:=dA a/\eJ a (vA a.2.2 e,e)
def DD(e:Int)(q:ao):Int:=
 if aW (TY e (xp (kU e) ai 3000 q))=0 then vA (xp (kU e) ai 3000 q).2.1 e else
 if 0<=gn (xp (kU e) ai 3000 q) (vA (xp (kU e) ai 3000 q).2.2 e,e)then vA (xp (kU e) ai 3000 q).2.2 e else vA (xp (kU e) ai 3000 q).2.1 e
def rv(y:Int×Int)(e:Int):Prop:=dp y/\0<=e/\e<=64
def aan(q:ao)(e:Int):Prop:=0<=e/\e<=64/\po (kU e) ai (XK e) 3000 q
def aaD(q:ao)(e:Int)(x:ao):Prop:=xp (kU e) ai 3000 x=xp (kU e) ai 3000 q/\∃k,k<=3000/\po (kU e) ai (XK e) k x
def HY(e:Int)(x:ao):Nat:=QK (kU e) ai 3000 x
def lgW(l:List Ω):Prop:=l.length<=10/\∀p∈l,p.length<=17/\∀z∈p,fit z/\(dz z).length<=256
def fg(n i:Int):Prop:=0<=i/\i<=n
def mu(p q:Ω):Prop:=lgW [p,q]/\lgW [dZ p q]/\bj 100000 p/\bj 100000 q
def nA(y:Int×Int):Prop:=0<=y.2/\y.2<=1024/\fit y.1/\bl y.1<=1024
def cM(q:ao):ao:=(bE q.1,q.2.1,q.2.2)
def rm(q:ao):Prop:=mu q.1 []/\cr q.1/\2<=tl q.1/\nA q.2.1/\nA q.2.2/\dp q.2.1/\dp q.2.2/\
 ((dd q.2.1 q.2.2=0/\bM (ae q.1) q.2.1/\cY (ae q.1) q.2.1=0)\/(dd q.2.1 q.2.2<0/\m6 q.1/\jO (bC q.1) q.2.1/\jO (bC q.1) q.2.2/\qb (bC q.1) q.2.1-qb (bC q.1) q.2.2=1))
def yL(q:ao)(e:Int):Prop:=rm q/\m6 q.1/\aan (cM q) e
def kX(q:ao):Int:=DD 4 (cM q)
def uV(z:Int):Prop:= -2147483648<z/\z<2147483648
def m9(z i n:Int):Prop:=0<=i/\i<=(dz z).length/\(i=0->n=0)/\(1<=i->n=(z.natAbs:Int))
def CB(q:ao):Prop:=yL q 4/\uV (kX q)
attribute [irreducible] vA TY kU XK DD rv aan aaD HY lgW fg mu nA cM rm yL kX uV m9 CB
def c406:bB:=ow sYI.dec (λa=>rv a.1 a.2) (λa=>zS (vA a.1 a.2))
def T406:List (Nat×bB):=(406,c406)::T86
def vc406(y:Int×Int)(e:Int):Prop:=fQ T86 f406 [] [yS y,iS e] (zS (vA y e))
def c396:bB:=ow sNI.dec (λa=>aan a.1 a.2) (λa=>zS (DD a.2 a.1))
def T396:List (Nat×bB):=(396,c396)::T406
def a396(q:ao)(e:Int):List kM:=[⟨.unit,.cod ei 0 0,λ_ (x:ao)=>aaD q e x,λ_ (x:ao)=>HY e x⟩]
def vc396(q:ao)(e:Int):Prop:=fQ T406 f396 (a396 q e) [nS q,iS e] (zS (DD e q))
def c210:bB:=ow sN.dec (λa=>m6 a.1) (λa=>nS (cM a))
def T210:List (Nat×bB):=(210,c210)::T396
def vc210(q:ao):Prop:=fQ T396 f210 [] [nS q] (nS (cM q))
def c357:bB:=ow sQ.dec (λa=>lgW a) (λa=>.bool false)
def T357:List (Nat×bB):=(357,c357)::T210
def a357(l:List Ω):List kM:=[⟨.unit,.int .i64 (.tm 9),λ_ (i:Int)=>fg l.length i,λ_ (i:Int)=>(l.length-i).toNat⟩,⟨.int .i64 (.tm 9),.int .i64 (.tm 6),λ(i:Int)(j:Int)=>0<=i/\i<l.length/\fg (tl (l.getD i.toNat [])) j,λ(i:Int)(j:Int)=>(tl (l.getD i.toNat [])-j).toNat⟩]
def vc357(l:List Ω):Prop:=fQ T210 f357 (a357 l) [qS l] (.bool false)
def c358:bB:=ow sP.dec (λa=>lgW [a]) (λa=>.df [pS a,iS 0])
def T358:List (Nat×bB):=(358,c358)::T357
def vc358(p:Ω):Prop:=fQ T357 f358 [] [pS p] (.df [pS p,iS 0])
def c301:bB:=ow Hs.dec (λa=>mu a.1 a.2) (λa=>.df [pS (dZ a.1 a.2),iS 0])
def T301:List (Nat×bB):=(301,c301)::T358
def vc301(p:Ω)(q:Ω):Prop:=fQ T358 f301 [] [pS p,pS q] (.df [pS (dZ p q),iS 0])
def c253:bB:=ow sP.dec (λa=>mu a []) (λa=>.bool true)
def T253:List (Nat×bB):=(253,c253)::T301
def vc253(p:Ω):Prop:=fQ T301 f253 [] [pS p] (.bool true)
def c255:bB:=ow sY1.dec (λa=>nA a) (λa=>.bool true)
def T255:List (Nat×bB):=(255,c255)::T253
def vc255(y:Int×Int):Prop:=fQ T253 f255 [] [yS y] (.bool true)
def c209:bB:=ow sN.dec (λa=>rm a) (λa=>.bool true)
def T209:List (Nat×bB):=(209,c209)::T255
def vc209(q:ao):Prop:=fQ T255 f209 [] [nS q] (.bool true)
def c370:bB:=ow sNI.dec (λa=>yL a.1 a.2) (λa=>.df [zS (DD a.2 (cM a.1)),iS 0])
def T370:List (Nat×bB):=(370,c370)::T209
def vc370(q:ao)(e:Int):Prop:=fQ T209 f370 [] [nS q,iS e] (.df [zS (DD e (cM q)),iS 0])
def c341:bB:=ow sZ.dec (λa=>uV a) (λa=>iS a)
def T341:List (Nat×bB):=(341,c341)::T370
def a341(z:Int):List kM:=[⟨.unit,.list [.int .i64 (.tm 15),.int .i64 (.tm 5)],λ_ (x:Int×Int)=>m9 z x.1 x.2,λ_ (x:Int×Int)=>((dz z).length-x.1).toNat⟩]
def vc341(z:Int):Prop:=fQ T370 f341 (a341 z) [zS z] (iS z)
def c325:bB:=ow sN.dec (λa=>CB a) (λa=>.df [iS (kX a),iS 0])
def T325:List (Nat×bB):=(325,c325)::T341
def vc325(q:ao):Prop:=fQ T341 f325 [] [nS q] (.df [iS (kX q),iS 0])
theorem vc406_eq(y:Int×Int)(e:Int):(
 let g:=λ(x:Int)(y:Int×Int)=>decide (x>=y.snd)
 let h:=λ(x:Int×Int)=>aj.ak (zc x.fst)/\True
 let c:=λ(x:Int×Int)=>zz x.fst
 let d:=λ(x:Int×Int)(y:Int)=>c x*2^(W (y-x.snd)).toNat
 let f:=λ(x:Int×Int)(y:Int)=>c x/2^(W (x.snd-y)).toNat
 ab 2 ((g e y=true->ab 2 ((h y/\fit (c y)/\di (W (e-y.snd)))/\ab 2 ((decide (d y e<0)=decide (vA y e<0)/\((dz (d y e)).length=(dz (vA
  y e)).length/\∀i,i<(dz (d y e)).length->(dz (d y e)).getD i 0=(dz (vA y e)).getD i 0/\True)/\True)/\True)))/\(g e y=false->ab 2 ((h y/\
  fit (c y)/\di (W (y.snd-e)))/\ab 2 ((decide (f y e<0)=decide (vA y e<0)/\((dz (f y e)).length=(dz (vA y e)).length/\∀i,i<(dz (f
  y e)).length->(dz (f y e)).getD i 0=(dz (vA y e)).getD i 0/\True)/\True)/\True)))))=vc406 y e:=by kernel_rfl
theorem vc396_eq(q:ao)(e:Int):(
 let B:=λ(m:Int)=>True/\m=m/\ab 34 True
 let d:=λ(m:ao)=>m.fst
 let u:=λ(m:ao)=>(d m).length
 let t:=aj
 let c2:=λ(m:ao)(s:Nat)=>t.enc ((d m).getD s 0)
 let C:=λ(m:ao)=>λi=>c2 m i
 let D:=λ(m:ao)=>m.snd
 let p:=λ(m:ao)=>(D m).fst
 let f:=λ(m:ao)=>(p m).fst
 let x:=λ(m:ao)=>(dz (f m)).length
 let c3:=λ(m:ao)(s:Nat)=>(aF IntKind.u32).enc ((dz (f m)).getD s 0)
 let r:=λ(m:ao)=>(D m).snd
 let g:=λ(m:ao)=>(r m).fst
 let y:=λ(m:ao)=>(dz (g m)).length
 let c4:=λ(m:ao)(s:Nat)=>(aF IntKind.u32).enc ((dz (g m)).getD s 0)
 let v:=([]:List ar)
 let w:=λ(m:ao)=>List.map ar.shape (ar.s (SV.bF 2 (u m) (C m))::ar.s (SV.bool (decide (f m<0)))::ar.s (SV.bF 1 (x m) λi=>c3 m i)::ar.s
  (SV.int .i64 (p m).snd)::ar.s (SV.bool (decide (g m<0)))::ar.s (SV.bF 1 (y m) λi=>c4 m i)::ar.s (SV.int .i64 (r m).snd)::v)
 let E:=λ(m:ao)(s:Nat)=>(dz ((d m).getD s 0)).length
 let F:=List.map ar.shape (ar.s SV.ff::v++(ar.s SV.aq::v++v))
 let G:=F=F/\ab 2 True/\True
 let H:=λ(m:ao)=>cR.ak (yc (p m))
 let J:=λ(m:ao)=>cR.ak (yc (r m))
 let c:=λ(m:ao)(s:Int)=>vA (yy (r m)) s
 let h:=λ(m:ao)(s:Int)=>vA (yy (p m)) s
 let z:=λ(m:ao)(s:Int)=>zz (zz (c m s)-zz (h m s))
 let K:=λ(m:ao)(s:Int)=>t.ak (zc (zz (c m s)-zz (h m s)))/\fit (z m s)
 let L:=λ(m:ao)(s:Int)=>aW (z m s)==0
 let M:=λ(m s:ao)(X:Int)=>ab 2 ((decide (h m X<0)=decide (DD X s<0)/\((dz (h m X)).length=(dz (DD X s)).length/\∀i,i<
  (dz (h m X)).length->(dz (h m X)).getD i 0=(dz (DD X s)).getD i 0/\True)/\True)/\True)
 let N:=λ(m:ao)(s:Int)=>bl (z m s)==1
 let O:=λ(m:ao)=>(∀i,i<u m->true=true/\t.ak (C m i))/\H m/\J m
 let A:=λ(m:ao)(s:Int)=>(dz (c m s)).length
 let c5:=λ(m:ao)(s:Int)(X:Nat)=>(aF IntKind.u32).enc ((dz (c m s)).getD X 0)
 let P:=λ(m:ao)(s:Int)=>decide (gn (nn m) (zz (c m s),s)>=0)
 let j:=λ(m:ao)=>(ai (nn m)).fst
 let Q:=λ(m:ao)(s:Nat)=>(dz ((j m).getD s 0)).length
 let R:=λ(m:ao)(s:Nat)=>dz ((eR (j m)).getD s 0)
 let T:=λ(m:ao)=>(ai (nn m)).snd
 let Z:=λ(m:ao)=>(T m).fst
 let k:=λ(m:ao)=>(Z m).fst
 let c1:=λ(m:ao)=>(T m).snd
 let o:=λ(m:ao)=>(c1 m).fst
 True/\(aaD q e (nn q)/\B e/\w q=w q/\((u q=(eR (d q)).length/\∀i,i<u q->decide ((d q).getD i 0<0)=decide ((eR (d q)).getD i 0<0)
  /\(E q i=(dz ((eR (d q)).getD i 0)).length/\∀(b:Nat),b<E q i->(dz ((d q).getD i 0)).getD b 0=(dz ((eR (d q)).getD i 0)).getD b 0/\True)/\
  True)/\decide (f q<0)=decide (zz (f q)<0)/\(x q=(dz (zz (f q))).length/\∀i,i<x q->(dz (f q)).getD i 0=(dz (zz (f q))).getD i 0/\True)
  /\sm (p q).snd/\decide (g q<0)=decide (zz (g q)<0)/\(y q=(dz (zz (g q))).length/\∀i,i<y q->(dz (g q)).getD i 0=(dz (zz (g q))).getD i 0
  /\True)/\sm (r q).snd/\True)/\G)/\∀(a:ao),aaD q e a->ab 2 (((H a/\True)/\rv (yy (p a)) e)/\ab 2 (((J a/\True)/\rv (yy (r a)) e)/\ru
  true/\ab 2 (((t.ak (zc (c a e))/\t.ak (zc (h a e)))/\fit (zz (c a e))/\fit (zz (h a e)))/\ab 2 (K a e/\True/\(L a e=true->M a q e)/\(L a e=false
  ->True/\K a e/\True/\(N a e=true->ab 2 (((O a/\cR.ak [SV.bool (decide (c a e<0)),SV.bF 1 (A a e) λi=>c5 a e i,SV.int .i64 e])/\eJ
  (nn a) (zz (c a e),e))/\True/\(P a e=true->ab 2 ((decide (c a e<0)=decide (DD e q<0)/\(A a e=(dz (DD e q)).length/\∀i,i<A a e->
  (dz (c a e)).getD i 0=(dz (DD e q)).getD i 0/\True)/\True)/\True))/\(P a e=false->M a q e)))/\(N a e=false->True/\(O a/\dA (nn a))/\True/\
  aaD q e (nn (ai (nn a)))/\HY e (nn (ai (nn a)))<HY e a/\B e/\w q=w q/\(((j a).length=(eR (j a)).length/\∀i,i<(j a).length
  ->decide ((j a).getD i 0<0)=decide ((eR (j a)).getD i 0<0)/\(Q a i=(R a i).length/\∀(b:Nat),b<Q a i->(dz ((j a).getD i 0)).getD b 0=(R
  a i).getD b 0/\True)/\True)/\decide (k a<0)=decide (zz (k a)<0)/\((dz (k a)).length=(dz (zz (k a))).length/\∀i,i<(dz (k a)).length->(dz
  (k a)).getD i 0=(dz (zz (k a))).getD i 0/\True)/\sm (Z a).snd/\decide (o a<0)=decide (zz (o a)<0)/\((dz (o a)).length=(dz (zz (o a))).length/\∀(i
  :Nat),i<(dz (o a)).length->(dz (o a)).getD i 0=(dz (zz (o a))).getD i 0/\True)/\sm (c1 a).snd/\True)/\G)))))))=vc396 q e:=by kernel_rfl
theorem vc210_eq(q:ao):(
 let c:=λ(x:ao)=>x.fst
 let k:=λ(x:ao)=>(bE (eR (c x))).length
 let d:=λ(x:ao)=>(cM x).fst
 let e:=λ(x:ao)(y:Nat)=>(bE (eR (c x))).getD y 0
 let o:=λ(x:ao)=>x.snd
 let f:=λ(x:ao)=>(o x).fst
 let p:=λ(x:ao)=>(cM x).snd
 let g:=λ(x:ao)=>(p x).fst
 let r:=λ(x:ao)=>(dz (f x).fst).length
 let h:=λ(x:ao)=>(o x).snd
 let j:=λ(x:ao)=>(p x).snd
 let s:=λ(x:ao)=>(dz (h x).fst).length
 ab 2 (((∀i,i<(c q).length->true=true/\aj.ak (aj.enc ((c q).getD i 0)))/\m6 (eR (c q)))/\ru true/\True/\((k q=(d q).length/\∀
  (i:Nat),i<k q->decide (e q i<0)=decide ((d q).getD i 0<0)/\((dz (e q i)).length=(dz ((d q).getD i 0)).length/\∀(b:Nat),b<(dz (e q i)).length
  ->(dz (e q i)).getD b 0=(dz ((d q).getD i 0)).getD b 0/\True)/\True)/\decide ((f q).fst<0)=decide ((g q).fst<0)/\(r q=(dz (g q).fst).length/\∀
  (i:Nat),i<r q->(dz (f q).fst).getD i 0=(dz (g q).fst).getD i 0/\True)/\(f q).snd=(g q).snd/\decide ((h q).fst<0)=decide ((j q).fst<0)/\(s q=
  (dz (j q).fst).length/\∀i,i<s q->(dz (h q).fst).getD i 0=(dz (j q).fst).getD i 0/\True)/\(h q).snd=(j q).snd/\True)/\True))=vc210 q:=by kernel_rfl
theorem vc357_eq(l:List Ω):(
 let j:=λ(x:List Ω)=>x.length
 let c:=λ(x:List Ω)=>(↑(j x):Int)
 let p:=λ(x:List Ω)(y:Nat)=>(x.getD y []).length
 let k:=λ(x:List Ω)=>j x=j x/\∀i,i<j x->(sm (p x i)/\∀(m:Nat),m<p x i->pW ((x.getD i []).getD m 0))/\True
 let q:=sm (0:Int)
 let o:=ab 19 True
 let f:=λ(x:Int)=>0<=x
 let d:=λ(x:List Ω)(y:Int)=>x.getD y.toNat []
 let g:=λ(x:List Ω)(y:Int)=> ↑(tl (eR (d x y)))-(1:Int)
 let r:=λ(x:List Ω)(y:Int)=>decide (g x y>16)
 let s:=ab 2 (false=true/\True)
 let h:=λ(x:List Ω)(y:Int)=>(↑(tl (d x y)):Int)
 let t:=λ(x:List Ω)(y:Int)=>sm (d x y).length/\∀i,i<(d x y).length->pW ((d x y).getD i 0)
 let u:=λ(x:List Ω)(y:Int)=>k x/\c x=c x/\y=y/\o
 let v:=λ(x:List Ω)(y w:Int)=>decide (↑(dz (zz ((d x y).getD w.toNat (0:Int)))).length>(256:Int))
 let e:=λ(x:Int)=>W (x+1)
 ab 2 ((fg (c l) 0/\ab 7 (k l/\c l=c l/\q/\o)/\True)/\∀(n:Int),fg (c l) n->True/\(decide (n<c l)=true->(f n/\n<c l)/\ab 2 (((∀(i
  :Nat),i<(d l n).length->true=true/\aj.ak (aj.enc ((d l n).getD i 0)))/\cr (eR (d l n)))/\ab 2 ((r l n=true->s)/\(r l n=false->True/\((f
  n/\n<c l/\fg (h l n) 0)/\ab 4 (t l n/\sm (g l n)/\q/\u l n)/\True)/\∀(b:Int),f n/\n<c l/\fg (h l n) b->True/\(decide (b<=g l
  n)=true->(f b/\b< ↑(d l n).length)/\True/\(aj.ak (zc ((d l n).getD b.toNat 0))/\fit (zz ((d l n).getD b.toNat 0)))/\True/\(v l n b=true
  ->s)/\(v l n b=false->True/\(f n/\n<c l/\fg (h l n) (e b))/\(h l n-e b).toNat<(h l n-b).toNat/\ab 4 (t l n/\sm (g l n)/\sm (e b)
  /\u l n)/\True))/\(decide (b<=g l n)=false->True/\fg (c l) (e n)/\(c l-e n).toNat<(c l-n).toNat/\ab 7 (k l/\c l=c l/\sm (e n)/\o)/\True)))))
  /\(decide (n<c l)=false->ab 2 (false=false/\True))))=vc357 l:=by kernel_rfl
theorem vc358_eq(p:Ω):(
 let d:=true=true
 let c:=λ(x:Ω)=>x.length
 let e:=λ(x:Ω)=>λi=>aj.enc (x.getD i 0)
 True/\((1:Nat)<=(1:Nat)/\∀i,i<(1:Nat)->d)/\((∀i,i<(1:Nat)->d/\∀i,i<c p->d/\aj.ak (aj.enc (p.getD i (0
  :Int))))/\lgW (ah fm (1:Nat) λi=>[SV.bF (2:Nat) (c p) (e p)]))/\True/\(false=true->ab (3:Nat) ((c p=(0:Nat)/\(2:Int)=(0:Int)/\
  True)/\True))/\(false=false->ab (3:Nat) (((c p=c p/\∀i,i<c p->pW (p.getD i (0:Int)))/\sm (0:Int)/\True)/\True)))=vc358 p:=by kernel_rfl
theorem vc301_eq(p:Ω)(q:Ω):(
 let e:=true=true
 let g:=λ(x:Nat)=>decide (0+x=1)
 let h:=λ(x:Nat)=>decide (0+x=0)
 let d:=aj
 let f:=λ(x:Ω)(y:Nat)=>d.enc (x.getD y 0)
 let j:=λ(x y:Nat)(u v:Ω)=>if g x=true then f u y else f v y
 let k:=λ(x:Ω)=>[SV.bF 2 x.length (f x)]
 let o:=λ(x:Ω)=>∀i,i<x.length->e/\d.ak (f x i)
 let c:=λ(x y:Ω)=>dZ (eR x) (eR y)
 let r:=λ(x y:Ω)(u:Nat)=>(dz ((eR (c x y)).getD u 0)).length
 True/\((2:Nat)<=(2:Nat)/\∀i,i<(2:Nat)->e)/\((∀i,i<(2:Nat)->e/\∀(b:Nat),(b<if g i=true then q.length else if h
  i=true then p.length else(0:Nat))->(d.dec (j i b q p)).isSome=true/\d.ak (j i b q p))/\lgW (ah fm (2:Nat) λi=>af (g i) (k q) (af
  (h i) (k p) ((λ(x:List SV)=>SV.aq::x) []))))/\True/\(false=true->ab (3:Nat) (((dZ p q).length=(0:Nat)/\(2:Int)=(0:Int)/\True)/\
  True))/\(false=false->ab (2:Nat) (((o p/\o q)/\bj (100000:Nat) (eR p)/\bj (100000:Nat) (eR q))/\True/\((∀i,i<(c p q).length->e/\
  d.ak (d.enc ((c p q).getD i (0:Int))))/\lgW [eR (c p q)])/\ab (3:Nat) ((((eR (c p q)).length=(dZ p q).length/\∀i,i<(eR (c p q)).length
  ->decide ((eR (c p q)).getD i (0:Int)<(0:Int))=decide ((dZ p q).getD i (0:Int)<(0:Int))/\(r p q i=(dz ((dZ p q).getD i (0:Int))).length
  /\∀(b:Nat),b<r p q i->(dz ((eR (c p q)).getD i (0:Int))).getD b (0:Int)=(dz ((dZ p q).getD i (0:Int))).getD b (0:Int)/\True)/\True)
  /\sm (0:Int)/\True)/\True))))=vc301 p q:=by kernel_rfl
theorem vc253_eq(p:Ω):(ab 3 ((((∀i,i<p.length->true=true/\aj.ak (aj.enc (p.getD i 0)))/\True)/\mu (eR p) [])/\ab 3 ((0==0)=true/\True)))=vc253 p:=by kernel_rfl
theorem vc255_eq(y:Int×Int):(
 let c:=λ(x:Int×Int)=>decide (x.snd>=0)
 let d:=λ(x:Int×Int)=>decide (x.snd<=1024)
 let e:=ab 2 (true=false/\True)
 True/\(c y=true->(d y=true->True/\(aj.ak (zc y.fst)/\fit (zz y.fst))/\ab 2 (decide (bl (zz y.fst)<=1024)=true/\True))/\(d y=false->e))/\(c
  y=false->e))=vc255 y:=by kernel_rfl
theorem vc209_eq(q:ao):(
 let o:=λ(m:ao)=>m.fst
 let g:=true=true
 let e:=aj
 let h:=λ(m:ao)=>∀i,i<(o m).length->g/\e.ak (e.enc ((o m).getD i 0))
 let c:=λ(m:ao)=>eR (o m)
 let s:=true=false/\True
 let t:=ab 3 s
 let u:=false=true->t
 let p:=false=false
 let v:=λ(m:ao)=>decide (↑(tl (c m))-(1:Int)<(1:Int))
 let w:=λ(m:ao)=>m.snd
 let x:=λ(m:ao)=>(w m).fst
 let j:=λ(m:ao)=>cR.ak (yc (x m))
 let d:=λ(m:ao)=>yy (x m)
 let y:=λ(m:ao)=>(w m).snd
 let r:=λ(m:ao)=>cR.ak (yc (y m))
 let f:=λ(m:ao)=>yy (y m)
 let z:=ab 2 s
 let A:=λ(m:ao)=>aW (dd (d m) (f m))==0
 let B:=λ(m:ao)=>aW (dd (d m) (f m))==1
 let C:=λ(m:ao)(E:Nat)=>(bC (c m)).getD E []
 let D:=λ(m:ao)=>∀i,i<(bC (c m)).length->g/\∀(b:Nat),b<(C m i).length->g/\e.ak (e.enc ((C m i).getD b 0))
 let k:=λ(m:ao)=>C5 (bC (c m))
 ab 2 ((h q/\mu (c q) [])/\u/\(p->True/\(h q/\cr (c q))/\(v q=true->t)/\(v q=false->True/\(j q/\nA (d q))/\u/\(p->True/\(r q/\nA
  (f q))/\True/\(false=true->z)/\(p->ab 2 (((j q/\r q)/\dp (d q)/\dp (f q))/\ab 2 ((A q=true->True/\(h q/\cr (c q))/\ab 2 ((((∀(i:Nat),
  i<(ae (c q)).length->g/\e.ak (e.enc ((ae (c q)).getD i 0)))/\j q)/\bM (eR (ae (c q))) (d q))/\ru true/\True/\(aW (cY (eR (ae (c q)))
  (d q))==0)=true/\True))/\(A q=false->True/\(B q=true->z)/\(B q=false->True/\(h q/\m6 (c q))/\ab 3 (((D q/\j q)/\jO (k q) (d q))/\
  ab 2 (((D q/\r q)/\jO (k q) (f q))/\ru true/\True/\(W (qb (k q) (d q)-qb (k q) (f q))==1)=true/\True))))))))))))=vc209 q:=by kernel_rfl
theorem vc370_eq(q:ao)(e:Int):(
 let f:=λ(x:ao)=>x.fst
 let c:=aj
 let d:=cR
 let h:=λ(x:ao)=>x.snd
 let j:=λ(x:ao)=>(∀i,i<(f x).length->true=true/\c.ak (c.enc ((f x).getD i 0)))/\d.ak (yc (h x).fst)/\d.ak (yc (h x).snd)
 let g:=λ(x:Int)(y:ao)=>((decide (DD x (cM y)<(0:Int))=false/\(dz (DD x (cM y))).length=(0:Nat)/\True)/\(1:Int)=(0:Int)
  /\True)/\True
 let k:=λ(x:Int)=>decide (x>64)
 let o:=λ(x:ao)=>(cM (nn x)).fst
 let p:=λ(x:ao)=>(cM (nn x)).snd
 let r:=λ(x:Int)(y:ao)=>(dz (DD x (nn (cM (nn y))))).length
 ab (2:Nat) ((j q/\rm (nn q))/\(false=true->ab (4:Nat) (g e q))/\(false=false->(decide (e<(0:Int))=true->ab (4:Nat) (g e q))/\(decide
  (e<(0:Int))=false->True/\(k e=true->ab (3:Nat) (g e q))/\(k e=false->True/\(j q/\m6 (eR (f q)))/\ab (2:Nat) (((((∀i,i<(o
  q).length->true=true/\c.ak (c.enc ((o q).getD i (0:Int))))/\d.ak (yc (p q).fst)/\d.ak (yc (p q).snd))/\True)/\aan (nn (cM (nn q))) e)/\ab
  (3:Nat) (((decide (DD e (nn (cM (nn q)))<(0:Int))=decide (DD e (cM q)<(0:Int))/\(r e q=(dz (DD e (cM q))).length/\∀i,i<
  r e q->(dz (DD e (nn (cM (nn q))))).getD i (0:Int)=(dz (DD e (cM q))).getD i (0:Int)/\True)/\True)/\sm (0:Int)/\True)/\True)))))))=vc370 q e:=by kernel_rfl
theorem vc341_eq(z:Int):(
 let d:=λ(x:Int)=>decide (zz x<0)
 let f:=sm (0:Int)
 let e:=λ(x:Int)=>(dz (zz x)).length
 let g:=λ(x:Int)=>sm (e x)/\∀i,i<e x->sm ((dz (zz x)).getD i 0)/\True
 let c:=λ(x:Int)=>(↑(e x):Int)
 let h:=ab 17 True
 let q:=λ(x:Int)(y:Nat)=>(aF IntKind.u32).enc ((dz x).getD y 0)
 let j:=λ(x:Int)=>List.map ar.shape [ar.s (SV.bool (decide (x<0))),ar.s (SV.bF 1 (dz x).length λi=>q x i)]
 let k:=λ(x:Int)=>j x=j x/\pW x/\True
 let o:=λ(x y u:Int)=>bits BinOp.or IntKind.i64 x (W (W ((dz (zz y)).getD u.toNat 0)*2^min (IntKind.u64.wrap (W (32*u))).toNat 64))
 let p:=λ(x:Int)=>(↑(dz x).length:Int)
 ab 2 ((aj.ak (zc z)/\fit (zz z))/\ab 3 ((m9 z 0 0/\ab 3 (sm (d z)/\True/\f/\ab 7 (g z/\c z=c z/\f/\h))/\k z)/\∀(n b:Int),m9 z
  n b->True/\(decide (n<c z)=true->(0<=n/\n<c z)/\True/\0<=IntKind.u64.wrap (W (32*n))/\ab 2 (m9 z (W (n+1)) (o b z n)/\(p z-W (n+
  1)).toNat<(p z-n).toNat/\ab 3 (sm (d z)/\True/\sm (o b z n)/\ab 7 (g z/\c z=c z/\sm (W (n+1))/\h))/\k z))/\(decide (n<c z)=false->True
  /\(d z=true->ab 2 (W (0-b)=z/\True))/\(d z=false->ab 2 (b=z/\True))))))=vc341 z:=by kernel_rfl
theorem vc325_eq(q:ao):(
 let c:=λ(x:ao)=>x.fst
 let d:=λ(x:ao)=>x.snd
 let e:=sm (0:Int)/\True
 let f:=λ(x:ao)=>zz (DD 4 (cM (nn x)))
 ab 3 (((((∀i,i<(c q).length->true=true/\aj.ak (aj.enc ((c q).getD i 0)))/\cR.ak (yc (d q).fst)/\cR.ak (yc (d q).snd))/\True)/\
  yL (nn q) 4)/\ab 2 ((false=true->ab 3 ((0=kX q/\e)/\True))/\(false=false->True/\(aj.ak (zc (DD 4 (cM (nn q))))/\uV (f q))/\ab
  3 ((f q=kX q/\e)/\True)))))=vc325 q:=by kernel_rfl
theorem IF{y:Int×Int}{e:Int}(h:rv y e):dp y/\0<=e/\e<=64:=by unfold rv at h;exact h
theorem Gn(y:Int×Int)(e:Int):vA y e=if y.2<=e then y.1*2^(e-y.2).toNat else y.1/2^(y.2-e).toNat:=by unfold vA;rfl
theorem szY_get{y:Int×Int}(h:dp y):(y.1.natAbs:Int)<pw 10000/\0<=y.2/\y.2<=320000:=by unfold dp at h;exact h
theorem div_abs(x:Int)(k:Nat):(x/2^k).natAbs<=x.natAbs:=by
 have d:(0:Int)<2^k:=JZ (by omega);rcases JV 0 x with h|h
 . have e:=Kb h (Ju d);have i:=Z3 (2^k) h;omega
 . have e:x/2^k<=0:=by
    rcases Int.lt_or_eq_of_le h with h|h
    . exact Ju (Int.ediv_neg_of_neg_of_pos h d)
    . rw[h];simp
   have i:x<=x/2^k:=by
    have:=Qp (a:=x) (b:=x) d;refine this.2 ?_;have:=Int.mul_le_mul_of_nonpos_left (a:=x) (b:=2^k) (c:=1) h (by omega);omega
   omega
theorem EH{y:Int×Int}{e:Int}(h:dp y)(c:e<=64):((vA y e).natAbs:Int)<pw 10003:=by
 obtain⟨b,d,i⟩:=szY_get h;rw[Gn];split
 . exact V8 (m:=2) b (by omega)
 . have j:=div_abs y.1 (y.2-e).toNat;have k:pw 10000<=pw 10003:=gT (by omega);omega
theorem Hx{y:Int×Int}{e:Int}(h:dp y)(b:e<=64):fit (vA y e):=fX (EH h b) (by omega)
theorem Lb{a:ao}{e:Int}(h:dp a.2.1)(c:dp a.2.2)(b:e<=64):fit (vA a.2.2 e-vA a.2.1 e):=by
 have d:=EH h b;have i:=EH c b;refine fX (k:=10004) ?_ (by omega);have:pw 10004=4294967296*pw 10003:=bD 10003;omega
theorem flrG_get{e:Int}{a:ao}(h:XK e a):dA a/\eJ a (vA a.2.2 e,e):=by unfold XK at h;exact h
theorem flrD_def(e:Int)(a:ao):kU e a=decide (aW (vA a.2.2 e-vA a.2.1 e)=0\/bl (vA a.2.2 e-vA a.2.1 e)=1):=by unfold kU TY;rfl
theorem floN_def(e:Int)(q:ao):DD e q=
 if aW (vA (xp (kU e) ai 3000 q).2.2 e-vA (xp (kU e) ai 3000 q).2.1 e)=0 then vA (xp (kU e) ai 3000 q).2.1 e else
 if 0<=gn (xp (kU e) ai 3000 q) (vA (xp (kU e) ai 3000 q).2.2 e,e)then vA (xp (kU e) ai 3000 q).2.2 e else vA (xp (kU e) ai 3000 q).2.1 e:=by unfold DD TY;rfl
theorem lgW_get{l:List Ω}(h:lgW l):l.length<=10/\∀p∈l,p.length<=17/\∀z∈p,fit z/\(dz z).length<=256:=by unfold lgW at h;exact h
theorem H4{p q:Ω}(h:mu p q):lgW [p,q]/\lgW [dZ p q]/\bj 100000 p/\bj 100000 q:=by unfold mu at h;exact h
theorem one_row(p:Ω):(ah fm 1 λi=>[SV.bF 2 p.length λi=>aj.enc (p.getD i 0)])=[p]:=iJ (C:=fm) (l:=[p]) rfl
theorem two_rows(p q:Ω):(ah fm 2 λi=>af (decide (i=1)) [SV.bF 2 q.length λi=>aj.enc (q.getD i 0)] (af (decide (i=0)) [SV.bF 2 p.length λi=>aj.enc (p.getD i 0)] [SV.aq]))=[p,q]:=by
 refine kj rfl λi d=>?_
 have b:fm.dec [SV.bF 2 p.length λi=>aj.enc (p.getD i 0)]=some p:=fm.self p;have c:fm.dec [SV.bF 2 q.length λi=>aj.enc (q.getD i 0)]=some q:=fm.self q;rw[fm.Aa _ _ _ _ _ c (fm.Aa _ _ _ _ _ b (show fm.dec [SV.aq]=some []from rfl))];rcases(show i=0\/i=1 by omega)with rfl|rfl<;>rfl
theorem k406:aH prog T406:=av k86 hm func406 (by kernel_rfl) (by kernel_rfl) sYI.ok (by kernel_rfl) (λ_=>[]) λa c=>by
 have h:vc406 a.1 a.2:=by
  rw[<-vc406_eq];simp only[aA];obtain⟨y,e⟩:=a
  try dsimp only at c
  simp[-List.getD_eq_getElem?_getD];obtain⟨d,i,j⟩:=IF c;obtain⟨k,m,o⟩:=szY_get d;obtain⟨f1,f2⟩:=oe d;have b:=Gn y e;refine⟨λh=>?_,λh=>?_⟩
  . rw[aO (n:=e-y.2) (by omega) (by omega)];rw[JB h]at b;rw[b];exact⟨⟨f1,by unfold di;omega⟩,J9,rfl,λ_ _=>rfl⟩
  . rw[aO (n:=y.2-e) (by omega) (by omega)];rw[JA (by omega)]at b;rw[b];exact⟨⟨f1,by unfold di;omega⟩,J9,rfl,λ_ _=>rfl⟩
 exact h
theorem k396:aH prog T396:=av k406 hm func396 (by kernel_rfl) (by kernel_rfl) sNI.ok (by kernel_rfl) (λa=>a396 a.1 a.2) λa A=>by
 have h:vc396 a.1 a.2:=by
  rw[<-vc396_eq];simp only[aA];obtain⟨q,e⟩:=a
  try dsimp only at A
  simp[-List.getD_eq_getElem?_getD];unfold aan at A;obtain⟨D,u,J⟩:=A;refine⟨by unfold aaD;exact⟨rfl,3000,J1 _,J⟩,λo p r d i=>?_⟩;intro m;unfold aaD at m;obtain⟨E,k,K,F⟩:=m;obtain⟨G,B⟩:=flrG_get (zd F);obtain⟨L,N,O⟩:=Hy B;obtain⟨w,x,R⟩:=mR L;have y:=flrD_def e (o,(p,r),d,i);have c:=floN_def e q;rw[<-E]at c;dsimp only at y G B w x;refine⟨by unfold rv;exact⟨w,D,u⟩,by unfold rv;exact⟨x,D,u⟩,⟨Hx x u,Hx w u⟩,Lb (a:=(o,(p,r),d,i)) w x u,λh=>?_,λh=>⟨Lb (a:=(o,(p,r),d,i)) w x u,λz=>⟨⟨cR.kW (vA (d,i) e,e),B⟩,λH=>?_,λH=>?_⟩,λz=>?_⟩⟩
  . have b:kU e (o,(p,r),d,i)=true:=by rw[y];exact JJ (.inl h)
    rw[Ic b,JB h]at c;dsimp only at c;rw[c];exact⟨J9,rfl,λ_ _=>rfl⟩
  . have b:kU e (o,(p,r),d,i)=true:=by rw[y];exact JJ (.inr z)
    rw[Ic b,JA h,JB H]at c;dsimp only at c;rw[c];exact⟨J9,rfl,λ_ _=>rfl⟩
  . have b:kU e (o,(p,r),d,i)=true:=by rw[y];exact JJ (.inr z)
    rw[Ic b,JA h,JA (by dsimp only;omega)]at c;dsimp only at c;rw[c];exact⟨J9,rfl,λ_ _=>rfl⟩
  . have b:kU e (o,(p,r),d,i)=false:=by rw[y];exact JH (by rintro(C|C);exact h C;exact z C)
    obtain⟨⟨j,X,M⟩,t1,t2⟩:=IA F K b;refine⟨G,by unfold aaD;exact⟨by rw[t1,E],j,by omega,M⟩,by unfold HY;exact t2⟩
 exact h
theorem k210:aH prog T210:=av k396 hm func210 (by kernel_rfl) (by kernel_rfl) sN.ok (by kernel_rfl) (λ_=>[]) λa b=>by
 have h:vc210 a:=by
  rw[<-vc210_eq];simp only[aA];generalize a=q at*
  try dsimp only at b
  simp[-List.getD_eq_getElem?_getD];rw[show cM q=(bE q.1,q.2.1,q.2.2) by unfold cM;rfl];exact⟨b,qE (bE q.1,q.2.1,q.2.2)⟩
 exact h
theorem k357:aH prog T357:=av k210 hm func357 (by kernel_rfl) (by kernel_rfl) sQ.ok (by kernel_rfl) (λa=>a357 a) λa e=>by
 have h:vc357 a:=by
  rw[<-vc357_eq];simp only[aA];generalize a=l at*
  try dsimp only at e
  simp[-List.getD_eq_getElem?_getD];obtain⟨u,m⟩:=lgW_get e;refine⟨by unfold fg;omega,λn o b=>?_⟩;unfold fg at o;have hm:l.getD n.toNat []∈l:=by
   rw[J0,J4 (show n.toNat<l.length by omega)];exact Ku _
  obtain⟨w,k⟩:=m _ hm;have x:=cX (l.getD n.toNat []);refine⟨⟨by omega,b⟩,Ir (by omega) λz p=>(k z p).1,by omega,λ_=>⟨⟨by omega,b,by unfold fg;omega⟩,λj _ _ q=>⟨λd=>?_,λd=>?_⟩⟩⟩
  . unfold fg at q;obtain⟨r,y⟩:=k _ (memZ (c:=l.getD n.toNat []) (i:=j.toNat) (by omega));refine⟨⟨by omega,by omega⟩,r,by omega,λ_=>⟨⟨by omega,b,?_⟩,?_⟩⟩
    . rw[aO (n:=j+1) (by omega) (by omega)];unfold fg;omega
    . rw[aO (n:=j+1) (by omega) (by omega)];omega
  . rw[aO (n:=n+1) (by omega) (by omega)];exact⟨by unfold fg;omega,by omega⟩
 exact h
theorem k358:aH prog T358:=av k357 hm func358 (by kernel_rfl) (by kernel_rfl) sP.ok (by kernel_rfl) (λ_=>[]) λa b=>by
 have h:vc358 a:=by
  rw[<-vc358_eq];simp only[aA];generalize a=p at*
  try dsimp only at b
  simp[-List.getD_eq_getElem?_getD];rw[one_row];exact b
 exact h
theorem k301:aH prog T301:=av k358 hm func301 (by kernel_rfl) (by kernel_rfl) Hs.ok (by kernel_rfl) (λ_=>[]) λa b=>by
 have h:vc301 a.1 a.2:=by
  rw[<-vc301_eq];simp only[aA];obtain⟨p,q⟩:=a
  try dsimp only at b
  simp[-List.getD_eq_getElem?_getD];obtain⟨c,d,e,k⟩:=H4 b;rw[two_rows];refine⟨⟨λi m j o=>?_,c⟩,⟨e,k⟩,d⟩;split
  . exact⟨by rw[aj.self];rfl,aj.kW _⟩
  . exact⟨by rw[aj.self];rfl,aj.kW _⟩
 exact h
theorem k253:aH prog T253:=av k301 hm func253 (by kernel_rfl) (by kernel_rfl) sP.ok (by kernel_rfl) (λ_=>[]) λa b=>by
 have h:vc253 a:=by
  rw[<-vc253_eq];simp only[aA];generalize a=p at*
  try dsimp only at b
  simp[-List.getD_eq_getElem?_getD];exact b
 exact h
theorem k255:aH prog T255:=av k253 hm func255 (by kernel_rfl) (by kernel_rfl) sY1.ok (by kernel_rfl) (λ_=>[]) λa b=>by
 have h:vc255 a:=by
  rw[<-vc255_eq];simp only[aA];generalize a=y at*
  try dsimp only at b
  simp[-List.getD_eq_getElem?_getD];unfold nA at b;exact⟨λ_=>⟨λ_=>⟨b.2.2.1,b.2.2.2⟩,b.2.1⟩,b.1⟩
 exact h
theorem k209:aH prog T209:=av k255 hm func209 (by kernel_rfl) (by kernel_rfl) sN.ok (by kernel_rfl) (λ_=>[]) λa e=>by
 have h:vc209 a:=by
  rw[<-vc209_eq];simp only[aA];generalize a=q at*
  try dsimp only at e
  simp[-List.getD_eq_getElem?_getD];unfold rm at e;obtain⟨k,i,x,m,o,p,r,j⟩:=e;refine⟨k,i,by omega,λ_=>⟨m,o,⟨p,r⟩,λh=>?_,λh=>?_⟩⟩
  . rcases j with⟨b,c,d⟩|⟨b,_⟩
    . exact⟨i,c,by rw[d];exact gV⟩
    . rw[ju]at h;omega
  . rcases j with⟨b,c,d⟩|⟨b,c,d,u,w⟩
    . exact absurd (by rw[b];exact gV) h
    . have: ¬aW (dd q.2.1 q.2.2)=1:=by rw[QL];omega
      exact⟨this,λ_=>⟨c,d,u,by rw[w];exact aO (by omega) (by omega)⟩⟩
 exact h
theorem k370:aH prog T370:=av k209 hm func370 (by kernel_rfl) (by kernel_rfl) sNI.ok (by kernel_rfl) (λ_=>[]) λa b=>by
 have h:vc370 a.1 a.2:=by
  rw[<-vc370_eq];simp only[aA];obtain⟨q,e⟩:=a
  try dsimp only at b
  simp[-List.getD_eq_getElem?_getD];unfold yL at b;obtain⟨i,j,d⟩:=b;have c:=d;unfold aan at c;exact⟨i,c.1,λ_=>⟨c.2.1,λ_=>⟨j,d⟩⟩⟩
 exact h
theorem k341:aH prog T341:=av k370 hm func341 (by kernel_rfl) (by kernel_rfl) sZ.ok (by kernel_rfl) (λa=>a341 a) λa m=>by
 have h:vc341 a:=by
  rw[<-vc341_eq];simp only[aA];generalize a=z at*
  try dsimp only at m
  simp[-List.getD_eq_getElem?_getD];unfold uV at m;have c:dz z=if z=0 then []else [(z.natAbs:Int)]:=by
   split
   . rename_i h;subst h;exact gz
   . unfold dz;rw[oM (by omega),show z.natAbs/4294967296=0 by omega,ur];simp;omega
  rw[c];refine⟨fX (k:=1) (by rw[show pw 1=4294967296 from by unfold pw;rfl];omega) (by omega),by unfold m9;exact⟨by omega,by omega,λ_=>rfl,λh=>by omega⟩,λi n b=>⟨λh=>?_,λh=>?_⟩⟩
  . unfold m9 at b;rw[c]at b;have o:z≠0:=by rintro rfl;simp at h;omega
    rw[JA o]at h b⊢;simp only[Jc,Kf]at h b⊢;have p:i=0:=by omega
    subst p;rw[b.2.2.1 rfl];have d:W (32*0)=0:=aO (by omega) (by omega);have j:W (0+1)=1:=aO (by omega) (by omega);rw[d,j];have q:IntKind.u64.wrap 0=0:=by kernel_rfl
    rw[q];refine⟨by omega,by omega,?_,by omega⟩;generalize r:(z.natAbs:Int)=y;have u:0<=y:=by omega
    have w:y<2147483648:=by omega
    have x:W (W (([y]:Ω).getD (0:Int).toNat 0)*2^min (0:Int).toNat 64)=y:=by
     show W (W y*2^0)=y
     rw[aO (n:=y) (by omega) (by omega)];rw[show y*2^0=y by simp];exact aO (by omega) (by omega)
    rw[x];have A:bits BinOp.or IntKind.i64 0 y=y:=by
     have d:bits .or .i64 0 y=IntKind.i64.wrap ((BitVec.ofInt 64 0|||BitVec.ofInt 64 y).toNat:Int):=rfl;have j:(BitVec.ofInt 64 0|||BitVec.ofInt 64 y).toNat=y.toNat:=by
      rw[BitVec.toNat_or,Xu,Xu,show((y%((2^64:Nat):Int)).toNat)=y.toNat by omega];simp
     rw[d,j,W_def,aO (by omega) (by omega)];omega
    rw[A];unfold m9;rw[c,JA o,r];exact⟨by omega,by simp,λh=>by omega,λ_=>rfl⟩
  . unfold m9 at b;rw[c]at b;have B:n=(z.natAbs:Int):=by
     split at h
     . rename_i e;subst e;simp at h b;rw[b.2.2.1 (by omega)];rfl
     . simp at h b;exact b.2.2.2 (by omega)
    subst B;exact⟨λh=>by rw[aO (by omega) (by omega)];omega,λh=>by omega⟩
 exact h
theorem k325:aH prog T325:=av k341 hm func325 (by kernel_rfl) (by kernel_rfl) sN.ok (by kernel_rfl) (λ_=>[]) λa b=>by
 have h:vc325 a:=by
  rw[<-vc325_eq];simp only[aA];generalize a=q at*
  try dsimp only at b
  simp[-List.getD_eq_getElem?_getD];unfold CB at b;have e:DD 4 (cM q)=kX q:=by unfold kX;rfl
  rw[e];exact⟨b.1,b.2,rfl⟩
 exact h
end Go.Proofs.Big
