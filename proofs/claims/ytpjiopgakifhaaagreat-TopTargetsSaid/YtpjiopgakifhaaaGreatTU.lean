import Derived.Test.YtpjiopgakifhaaaGreatTJ
import Derived.Test.YtpjiopgakifhaaaGreatTT
import Derived.Test.YtpjiopgakifhaaaGreatTI
import Derived.Test.YtpjiopgakifhaaaGreatTG
set_option linter.unusedSectionVars false
set_option linter.unusedSimpArgs false
set_option linter.unusedVariables false
set_option maxRecDepth 100000
namespace Go.Proofs.Big
open Go Go.Sx Go.Proofs
variable [bW]
set_option maxHeartbeats 4000000
attribute [local irreducible] lm nv tl dg dz
def sYI :=iR.cons AB sI
def sNI :=iR.cons MA sI
def eH (y:Int×Int) (e:Int):Int:=if y.2<=e then y.1*2^(e-y.2).toNat else y.1/2^(y.2-e).toNat
def TY (e:Int) (a:ao):Int:=eH a.2.2 e-eH a.2.1 e
def kU (e:Int) (a:ao):Bool:=decide (aW (TY e a)=0\/bl (TY e a)=1)
def XK (e:Int) (a:ao):Prop:=dA a/\eJ a (eH a.2.2 e,e)
def lg (e:Int) (q:ao):Int:=
 if aW (TY e (xp (kU e) ai 3000 q))=0 then eH (xp (kU e) ai 3000 q).2.1 e else
 if 0<=gn (xp (kU e) ai 3000 q) (eH (xp (kU e) ai 3000 q).2.2 e,e)then eH (xp (kU e) ai 3000 q).2.2 e else eH (xp (kU e) ai 3000 q).2.1 e
def rv (y:Int×Int) (e:Int):Prop:=dp y/\0<=e/\e<=64
def qg (q:ao) (e:Int):Prop:=0<=e/\e<=64/\po (kU e) ai (XK e) 3000 q
def pB (q:ao) (e:Int) (x:ao):Prop:=xp (kU e) ai 3000 x=xp (kU e) ai 3000 q/\ ∃k,k<=3000/\po (kU e) ai (XK e) k x
def HY (e:Int) (x:ao):Nat:=QK (kU e) ai 3000 x
def lgW (l:List (List Int)):Prop:=l.length<=10/\ ∀p∈l,p.length<=17/\ ∀z∈p,fit z/\(dz z).length<=256
def fg (n i:Int):Prop:=0<=i/\i<=n
def mu (p q:List Int):Prop:=lgW [p,q]/\lgW [dZ p q]/\bj 100000 p/\bj 100000 q
def nA (y:Int×Int):Prop:=0<=y.2/\y.2<=1024/\fit y.1/\bl y.1<=1024
def cM (q:ao):ao:=(bE q.1,q.2.1,q.2.2)
def rm (q:ao):Prop:=mu q.1 []/\cr q.1/\2<=tl q.1/\nA q.2.1/\nA q.2.2/\dp q.2.1/\dp q.2.2/\
 ((dd q.2.1 q.2.2=0/\bM (ae q.1) q.2.1/\cY (ae q.1) q.2.1=0)\/(dd q.2.1 q.2.2<0/\gp q.1/\jO (bC q.1) q.2.1/\jO (bC q.1) q.2.2/\ep (bC q.1) q.2.1-ep (bC q.1) q.2.2=1))
def yL (q:ao) (e:Int):Prop:=rm q/\gp q.1/\qg (cM q) e
def kX (q:ao):Int:=lg 4 (cM q)
def uV (z:Int):Prop:= -2147483648<z/\z<2147483648
def m9 (z i n:Int):Prop:=0<=i/\i<=(dz z).length/\(i=0->n=0)/\(1<=i->n=(z.natAbs:Int))
def CB (q:ao):Prop:=yL q 4/\uV (kX q)
attribute [irreducible] eH TY kU XK lg rv qg pB HY lgW fg mu nA cM rm yL kX uV m9 CB
def c406 :bB:=fl sYI.dec (fun a=>rv a.1 a.2) (fun a=>zS (eH a.1 a.2))
def T406 :List (Nat×bB):=(406,c406)::T86
def vc406 (y:Int×Int) (e:Int):Prop:=fQ T86 Tryz.f406 [] [yS y,iS e] (zS (eH y e))
def c396 :bB:=fl sNI.dec (fun a=>qg a.1 a.2) (fun a=>zS (lg a.2 a.1))
def T396 :List (Nat×bB):=(396,c396)::T406
def a396 (q:ao) (e:Int):List kM:=[⟨.unit, .N2 ei 0 0,fun _ (x:ao)=>pB q e x,fun _ (x:ao)=>HY e x⟩]
def vc396 (q:ao) (e:Int):Prop:=fQ T406 Tryz.f396 (a396 q e) [nS q,iS e] (zS (lg e q))
def c210 :bB:=fl sN.dec (fun a=>gp a.1) (fun a=>nS (cM a))
def T210 :List (Nat×bB):=(210,c210)::T396
def vc210 (q:ao):Prop:=fQ T396 Tryz.f210 [] [nS q] (nS (cM q))
def c357 :bB:=fl sQ.dec (fun a=>lgW a) (fun a=> .bool false)
def T357 :List (Nat×bB):=(357,c357)::T210
def a357 (l:List (List Int)):List kM:=[⟨.unit, .int .i64 (.tm 9),fun _ (i:Int)=>fg l.length i,fun _ (i:Int)=>(l.length-i).toNat⟩,⟨.int .i64 (.tm 9), .int .i64 (.tm 6),fun(i:Int) (j:Int)=>0<=i/\i<l.length/\fg (tl (l.getD i.toNat [])) j,fun(i:Int) (j:Int)=>(tl (l.getD i.toNat [])-j).toNat⟩]
def vc357 (l:List (List Int)):Prop:=fQ T210 Tryz.f357 (a357 l) [qS l] (.bool false)
def c358 :bB:=fl sP.dec (fun a=>lgW [a]) (fun a=> .bp [pS a,iS 0])
def T358 :List (Nat×bB):=(358,c358)::T357
def vc358 (p:List Int):Prop:=fQ T357 Tryz.f358 [] [pS p] (.bp [pS p,iS 0])
def c301 :bB:=fl Hs.dec (fun a=>mu a.1 a.2) (fun a=> .bp [pS (dZ a.1 a.2),iS 0])
def T301 :List (Nat×bB):=(301,c301)::T358
def vc301 (p:List Int) (q:List Int):Prop:=fQ T358 Tryz.f301 [] [pS p,pS q] (.bp [pS (dZ p q),iS 0])
def c253 :bB:=fl sP.dec (fun a=>mu a []) (fun a=> .bool true)
def T253 :List (Nat×bB):=(253,c253)::T301
def vc253 (p:List Int):Prop:=fQ T301 Tryz.f253 [] [pS p] (.bool true)
def c255 :bB:=fl sY1.dec (fun a=>nA a) (fun a=> .bool true)
def T255 :List (Nat×bB):=(255,c255)::T253
def vc255 (y:Int×Int):Prop:=fQ T253 Tryz.f255 [] [yS y] (.bool true)
def c209 :bB:=fl sN.dec (fun a=>rm a) (fun a=> .bool true)
def T209 :List (Nat×bB):=(209,c209)::T255
def vc209 (q:ao):Prop:=fQ T255 Tryz.f209 [] [nS q] (.bool true)
def c370 :bB:=fl sNI.dec (fun a=>yL a.1 a.2) (fun a=> .bp [zS (lg a.2 (cM a.1)),iS 0])
def T370 :List (Nat×bB):=(370,c370)::T209
def vc370 (q:ao) (e:Int):Prop:=fQ T209 Tryz.f370 [] [nS q,iS e] (.bp [zS (lg e (cM q)),iS 0])
def c341 :bB:=fl sZ.dec (fun a=>uV a) (fun a=>iS a)
def T341 :List (Nat×bB):=(341,c341)::T370
def a341 (z:Int):List kM:=[⟨.unit, .list [.int .i64 (.tm 15), .int .i64 (.tm 5)],fun _ (x:Int×Int)=>m9 z x.1 x.2,fun _ (x:Int×Int)=>((dz z).length-x.1).toNat⟩]
def vc341 (z:Int):Prop:=fQ T370 Tryz.f341 (a341 z) [zS z] (iS z)
def c325 :bB:=fl sN.dec (fun a=>CB a) (fun a=> .bp [iS (kX a),iS 0])
def T325 :List (Nat×bB):=(325,c325)::T341
def vc325 (q:ao):Prop:=fQ T341 Tryz.f325 [] [nS q] (.bp [iS (kX q),iS 0])
theorem vc406_eq (y:Int×Int) (e:Int):(
 let g:=fun(x:Int) (y:Int×Int)=>decide (x>=y.snd)
 let h:=fun(x:Int×Int)=>aj.ak (zc x.fst)/\True
 let c:=fun(x:Int×Int)=>zz x.fst
 let d:=fun(x:Int×Int) (y:Int)=>c x*2^(W (y-x.snd)).toNat
 let f:=fun(x:Int×Int) (y:Int)=>c x/2^(W (x.snd-y)).toNat
 ab 2 ((g e y=true->ab 2 ((h y/\fit (c y)/\di (W (e-y.snd)))/\ab 2 ((decide (d y e<0)=decide (eH y e<0)/\((dz (d y e)).length=(dz (eH
  y e)).length/\ ∀(i:Nat),i<(dz (d y e)).length->(dz (d y e)).getD i 0=(dz (eH y e)).getD i 0/\True)/\True)/\True)))/\(g e y=false->ab 2 ((h y/\
  fit (c y)/\di (W (y.snd-e)))/\ab 2 ((decide (f y e<0)=decide (eH y e<0)/\((dz (f y e)).length=(dz (eH y e)).length/\ ∀(i:Nat),i<(dz (f
  y e)).length->(dz (f y e)).getD i 0=(dz (eH y e)).getD i 0/\True)/\True)/\True)))))=vc406 y e:=by kernel_rfl
theorem vc396_eq (q:ao) (e:Int):(
 let B:=fun(m:Int)=>True/\m=m/\ab 34 True
 let d:=fun(m:ao)=>m.fst
 let u:=fun(m:ao)=>(d m).length
 let t:=aj
 let c2:=fun(m:ao) (s:Nat)=>t.enc ((d m).getD s 0)
 let C:=fun(m:ao)=>fun i=>c2 m i
 let D:=fun(m:ao)=>m.snd
 let p:=fun(m:ao)=>(D m).fst
 let f:=fun(m:ao)=>(p m).fst
 let x:=fun(m:ao)=>(dz (f m)).length
 let c3:=fun(m:ao) (s:Nat)=>(aF IntKind.u32).enc ((dz (f m)).getD s 0)
 let r:=fun(m:ao)=>(D m).snd
 let g:=fun(m:ao)=>(r m).fst
 let y:=fun(m:ao)=>(dz (g m)).length
 let c4:=fun(m:ao) (s:Nat)=>(aF IntKind.u32).enc ((dz (g m)).getD s 0)
 let v:=([]:List ar)
 let w:=fun(m:ao)=>List.map ar.shape (ar.s (SV.aI 2 (u m) (C m))::ar.s (SV.bool (decide (f m<0)))::ar.s (SV.aI 1 (x m) fun i=>c3 m i)::ar.s
  (SV.int IntKind.i64 (p m).snd)::ar.s (SV.bool (decide (g m<0)))::ar.s (SV.aI 1 (y m) fun i=>c4 m i)::ar.s (SV.int IntKind.i64 (r m).snd)::v)
 let E:=fun(m:ao) (s:Nat)=>(dz ((d m).getD s 0)).length
 let F:=List.map ar.shape (ar.s SV.ff::v++(ar.s SV.aq::v++v))
 let G:=F=F/\ab 2 True/\True
 let H:=fun(m:ao)=>cR.ak (yc (p m))
 let J:=fun(m:ao)=>cR.ak (yc (r m))
 let c:=fun(m:ao) (s:Int)=>eH (yy (r m)) s
 let h:=fun(m:ao) (s:Int)=>eH (yy (p m)) s
 let z:=fun(m:ao) (s:Int)=>zz (zz (c m s)-zz (h m s))
 let K:=fun(m:ao) (s:Int)=>t.ak (zc (zz (c m s)-zz (h m s)))/\fit (z m s)
 let L:=fun(m:ao) (s:Int)=>aW (z m s)==0
 let M:=fun(m s:ao) (x1:Int)=>ab 2 ((decide (h m x1<0)=decide (lg x1 s<0)/\((dz (h m x1)).length=(dz (lg x1 s)).length/\ ∀(i:Nat),i<
  (dz (h m x1)).length->(dz (h m x1)).getD i 0=(dz (lg x1 s)).getD i 0/\True)/\True)/\True)
 let N:=fun(m:ao) (s:Int)=>bl (z m s)==1
 let O:=fun(m:ao)=>(∀(i:Nat),i<u m->true=true/\t.ak (C m i))/\H m/\J m
 let A:=fun(m:ao) (s:Int)=>(dz (c m s)).length
 let c5:=fun(m:ao) (s:Int) (x1:Nat)=>(aF IntKind.u32).enc ((dz (c m s)).getD x1 0)
 let P:=fun(m:ao) (s:Int)=>decide (gn (nn m) (zz (c m s),s)>=0)
 let j:=fun(m:ao)=>(ai (nn m)).fst
 let Q:=fun(m:ao) (s:Nat)=>(dz ((j m).getD s 0)).length
 let R:=fun(m:ao) (s:Nat)=>dz ((eR (j m)).getD s 0)
 let T:=fun(m:ao)=>(ai (nn m)).snd
 let c0:=fun(m:ao)=>(T m).fst
 let k:=fun(m:ao)=>(c0 m).fst
 let c1:=fun(m:ao)=>(T m).snd
 let o:=fun(m:ao)=>(c1 m).fst
 True/\(pB q e (nn q)/\B e/\w q=w q/\((u q=(eR (d q)).length/\ ∀(i:Nat),i<u q->decide ((d q).getD i 0<0)=decide ((eR (d q)).getD i 0<0)
  /\(E q i=(dz ((eR (d q)).getD i 0)).length/\ ∀(i_1:Nat),i_1<E q i->(dz ((d q).getD i 0)).getD i_1 0=(dz ((eR (d q)).getD i 0)).getD i_1 0/\True)/\
  True)/\decide (f q<0)=decide (zz (f q)<0)/\(x q=(dz (zz (f q))).length/\ ∀(i:Nat),i<x q->(dz (f q)).getD i 0=(dz (zz (f q))).getD i 0/\True)
  /\sm (p q).snd/\decide (g q<0)=decide (zz (g q)<0)/\(y q=(dz (zz (g q))).length/\ ∀(i:Nat),i<y q->(dz (g q)).getD i 0=(dz (zz (g q))).getD i 0
  /\True)/\sm (r q).snd/\True)/\G)/\ ∀(a:ao),pB q e a->ab 2 (((H a/\True)/\rv (yy (p a)) e)/\ab 2 (((J a/\True)/\rv (yy (r a)) e)/\ru
  true/\ab 2 (((t.ak (zc (c a e))/\t.ak (zc (h a e)))/\fit (zz (c a e))/\fit (zz (h a e)))/\ab 2 (K a e/\True/\(L a e=true->M a q e)/\(L a e=false
  ->True/\K a e/\True/\(N a e=true->ab 2 (((O a/\cR.ak [SV.bool (decide (c a e<0)),SV.aI 1 (A a e) fun i=>c5 a e i,SV.int IntKind.i64 e])/\eJ
  (nn a) (zz (c a e),e))/\True/\(P a e=true->ab 2 ((decide (c a e<0)=decide (lg e q<0)/\(A a e=(dz (lg e q)).length/\ ∀(i:Nat),i<A a e->
  (dz (c a e)).getD i 0=(dz (lg e q)).getD i 0/\True)/\True)/\True))/\(P a e=false->M a q e)))/\(N a e=false->True/\(O a/\dA (nn a))/\True/\
  pB q e (nn (ai (nn a)))/\HY e (nn (ai (nn a)))<HY e a/\B e/\w q=w q/\(((j a).length=(eR (j a)).length/\ ∀(i:Nat),i<(j a).length
  ->decide ((j a).getD i 0<0)=decide ((eR (j a)).getD i 0<0)/\(Q a i=(R a i).length/\ ∀(i_1:Nat),i_1<Q a i->(dz ((j a).getD i 0)).getD i_1 0=(R
  a i).getD i_1 0/\True)/\True)/\decide (k a<0)=decide (zz (k a)<0)/\((dz (k a)).length=(dz (zz (k a))).length/\ ∀(i:Nat),i<(dz (k a)).length->(dz
  (k a)).getD i 0=(dz (zz (k a))).getD i 0/\True)/\sm (c0 a).snd/\decide (o a<0)=decide (zz (o a)<0)/\((dz (o a)).length=(dz (zz (o a))).length/\ ∀(i
  :Nat),i<(dz (o a)).length->(dz (o a)).getD i 0=(dz (zz (o a))).getD i 0/\True)/\sm (c1 a).snd/\True)/\G)))))))=vc396 q e:=by kernel_rfl
theorem vc210_eq (q:ao):(
 let c:=fun(x:ao)=>x.fst
 let k:=fun(x:ao)=>(bE (eR (c x))).length
 let d:=fun(x:ao)=>(cM x).fst
 let e:=fun(x:ao) (y:Nat)=>(bE (eR (c x))).getD y 0
 let o:=fun(x:ao)=>x.snd
 let f:=fun(x:ao)=>(o x).fst
 let p:=fun(x:ao)=>(cM x).snd
 let g:=fun(x:ao)=>(p x).fst
 let r:=fun(x:ao)=>(dz (f x).fst).length
 let h:=fun(x:ao)=>(o x).snd
 let j:=fun(x:ao)=>(p x).snd
 let s:=fun(x:ao)=>(dz (h x).fst).length
 ab 2 (((∀(i:Nat),i<(c q).length->true=true/\aj.ak (aj.enc ((c q).getD i 0)))/\gp (eR (c q)))/\ru true/\True/\((k q=(d q).length/\ ∀
  (i:Nat),i<k q->decide (e q i<0)=decide ((d q).getD i 0<0)/\((dz (e q i)).length=(dz ((d q).getD i 0)).length/\ ∀(i_1:Nat),i_1<(dz (e q i)).length
  ->(dz (e q i)).getD i_1 0=(dz ((d q).getD i 0)).getD i_1 0/\True)/\True)/\decide ((f q).fst<0)=decide ((g q).fst<0)/\(r q=(dz (g q).fst).length/\ ∀
  (i:Nat),i<r q->(dz (f q).fst).getD i 0=(dz (g q).fst).getD i 0/\True)/\(f q).snd=(g q).snd/\decide ((h q).fst<0)=decide ((j q).fst<0)/\(s q=
  (dz (j q).fst).length/\ ∀(i:Nat),i<s q->(dz (h q).fst).getD i 0=(dz (j q).fst).getD i 0/\True)/\(h q).snd=(j q).snd/\True)/\True))=vc210 q:=by kernel_rfl
theorem vc357_eq (l:List (List Int)):(
 let j:=fun(x:List (List Int))=>x.length
 let c:=fun(x:List (List Int))=>(↑(j x):Int)
 let p:=fun(x:List (List Int)) (y:Nat)=>(x.getD y []).length
 let k:=fun(x:List (List Int))=>j x=j x/\ ∀(i:Nat),i<j x->(sm (p x i)/\ ∀(i_1:Nat),i_1<p x i->pW ((x.getD i []).getD i_1 0))/\True
 let q:=sm (0:Int)
 let o:=ab 19 True
 let f:=fun(x:Int)=>0<=x
 let d:=fun(x:List (List Int)) (y:Int)=>x.getD y.toNat []
 let g:=fun(x:List (List Int)) (y:Int)=> ↑(tl (eR (d x y)))-(1:Int)
 let r:=fun(x:List (List Int)) (y:Int)=>decide (g x y>16)
 let s:=ab 2 (false=true/\True)
 let h:=fun(x:List (List Int)) (y:Int)=>(↑(tl (d x y)):Int)
 let t:=fun(x:List (List Int)) (y:Int)=>sm (d x y).length/\ ∀(i:Nat),i<(d x y).length->pW ((d x y).getD i 0)
 let u:=fun(x:List (List Int)) (y:Int)=>k x/\c x=c x/\y=y/\o
 let v:=fun(x:List (List Int)) (y w:Int)=>decide (↑(dz (zz ((d x y).getD w.toNat (0:Int)))).length>(256:Int))
 let e:=fun(x:Int)=>W (x+1)
 ab 2 ((fg (c l) 0/\ab 7 (k l/\c l=c l/\q/\o)/\True)/\ ∀(n:Int),fg (c l) n->True/\(decide (n<c l)=true->(f n/\n<c l)/\ab 2 (((∀(i
  :Nat),i<(d l n).length->true=true/\aj.ak (aj.enc ((d l n).getD i 0)))/\cr (eR (d l n)))/\ab 2 ((r l n=true->s)/\(r l n=false->True/\((f
  n/\n<c l/\fg (h l n) 0)/\ab 4 (t l n/\sm (g l n)/\q/\u l n)/\True)/\ ∀(n_1:Int),f n/\n<c l/\fg (h l n) n_1->True/\(decide (n_1<=g l
  n)=true->(f n_1/\n_1< ↑(d l n).length)/\True/\(aj.ak (zc ((d l n).getD n_1.toNat 0))/\fit (zz ((d l n).getD n_1.toNat 0)))/\True/\(v l n n_1=true
  ->s)/\(v l n n_1=false->True/\(f n/\n<c l/\fg (h l n) (e n_1))/\(h l n-e n_1).toNat<(h l n-n_1).toNat/\ab 4 (t l n/\sm (g l n)/\sm (e n_1)
  /\u l n)/\True))/\(decide (n_1<=g l n)=false->True/\fg (c l) (e n)/\(c l-e n).toNat<(c l-n).toNat/\ab 7 (k l/\c l=c l/\sm (e n)/\o)/\True)))))
  /\(decide (n<c l)=false->ab 2 (false=false/\True))))=vc357 l:=by kernel_rfl
theorem vc358_eq (p:List Int):(
 let d:=true=true
 let c:=fun(x:List Int)=>x.length
 let e:=fun(x:List Int)=>fun i=>aj.enc (x.getD i 0)
 True/\((1:Nat)<=(1:Nat)/\ ∀(i:Nat),i<(1:Nat)->d)/\((∀(i:Nat),i<(1:Nat)->d/\ ∀(i:Nat),i<c p->d/\aj.ak (aj.enc (p.getD i (0
  :Int))))/\lgW (ah fm (1:Nat) fun i=>[SV.aI (2:Nat) (c p) (e p)]))/\True/\(false=true->ab (3:Nat) ((c p=(0:Nat)/\(2:Int)=(0:Int)/\
  True)/\True))/\(false=false->ab (3:Nat) (((c p=c p/\ ∀(i:Nat),i<c p->pW (p.getD i (0:Int)))/\sm (0:Int)/\True)/\True)))=vc358 p:=by kernel_rfl
theorem vc301_eq (p:List Int) (q:List Int):(
 let e:=true=true
 let g:=fun(x:Nat)=>decide (0+x=1)
 let h:=fun(x:Nat)=>decide (0+x=0)
 let d:=aj
 let f:=fun(x:List Int) (y:Nat)=>d.enc (x.getD y 0)
 let j:=fun(x y:Nat) (u v:List Int)=>if g x=true then f u y else f v y
 let k:=fun(x:List Int)=>[SV.aI 2 x.length (f x)]
 let o:=fun(x:List Int)=> ∀(i:Nat),i<x.length->e/\d.ak (f x i)
 let c:=fun(x y:List Int)=>dZ (eR x) (eR y)
 let r:=fun(x y:List Int) (u:Nat)=>(dz ((eR (c x y)).getD u 0)).length
 True/\((2:Nat)<=(2:Nat)/\ ∀(i:Nat),i<(2:Nat)->e)/\((∀(i:Nat),i<(2:Nat)->e/\ ∀(i_1:Nat),(i_1<if g i=true then q.length else if h
  i=true then p.length else(0:Nat))->(d.dec (j i i_1 q p)).isSome=true/\d.ak (j i i_1 q p))/\lgW (ah fm (2:Nat) fun i=>af (g i) (k q) (af
  (h i) (k p) ((fun(x:List SV)=>SV.aq::x) []))))/\True/\(false=true->ab (3:Nat) (((dZ p q).length=(0:Nat)/\(2:Int)=(0:Int)/\True)/\
  True))/\(false=false->ab (2:Nat) (((o p/\o q)/\bj (100000:Nat) (eR p)/\bj (100000:Nat) (eR q))/\True/\((∀(i:Nat),i<(c p q).length->e/\
  d.ak (d.enc ((c p q).getD i (0:Int))))/\lgW [eR (c p q)])/\ab (3:Nat) ((((eR (c p q)).length=(dZ p q).length/\ ∀(i:Nat),i<(eR (c p q)).length
  ->decide ((eR (c p q)).getD i (0:Int)<(0:Int))=decide ((dZ p q).getD i (0:Int)<(0:Int))/\(r p q i=(dz ((dZ p q).getD i (0:Int))).length
  /\ ∀(i_1:Nat),i_1<r p q i->(dz ((eR (c p q)).getD i (0:Int))).getD i_1 (0:Int)=(dz ((dZ p q).getD i (0:Int))).getD i_1 (0:Int)/\True)/\True)
  /\sm (0:Int)/\True)/\True))))=vc301 p q:=by kernel_rfl
theorem vc253_eq (p:List Int):(ab 3 ((((∀(i:Nat),i<p.length->true=true/\aj.ak (aj.enc (p.getD i 0)))/\True)/\mu (eR p) [])/\ab 3 ((0==0)=true/\True)))=vc253 p:=by kernel_rfl
theorem vc255_eq (y:Int×Int):(
 let c:=fun(x:Int×Int)=>decide (x.snd>=0)
 let d:=fun(x:Int×Int)=>decide (x.snd<=1024)
 let e:=ab 2 (true=false/\True)
 True/\(c y=true->(d y=true->True/\(aj.ak (zc y.fst)/\fit (zz y.fst))/\ab 2 (decide (bl (zz y.fst)<=1024)=true/\True))/\(d y=false->e))/\(c
  y=false->e))=vc255 y:=by kernel_rfl
theorem vc209_eq (q:ao):(
 let o:=fun(m:ao)=>m.fst
 let g:=true=true
 let e:=aj
 let h:=fun(m:ao)=> ∀(i:Nat),i<(o m).length->g/\e.ak (e.enc ((o m).getD i 0))
 let c:=fun(m:ao)=>eR (o m)
 let s:=true=false/\True
 let t:=ab 3 s
 let u:=false=true->t
 let p:=false=false
 let v:=fun(m:ao)=>decide (↑(tl (c m))-(1:Int)<(1:Int))
 let w:=fun(m:ao)=>m.snd
 let x:=fun(m:ao)=>(w m).fst
 let j:=fun(m:ao)=>cR.ak (yc (x m))
 let d:=fun(m:ao)=>yy (x m)
 let y:=fun(m:ao)=>(w m).snd
 let r:=fun(m:ao)=>cR.ak (yc (y m))
 let f:=fun(m:ao)=>yy (y m)
 let z:=ab 2 s
 let A:=fun(m:ao)=>aW (dd (d m) (f m))==0
 let B:=fun(m:ao)=>aW (dd (d m) (f m))==1
 let C:=fun(m:ao) (x1:Nat)=>(bC (c m)).getD x1 []
 let D:=fun(m:ao)=> ∀(i:Nat),i<(bC (c m)).length->g/\ ∀(i_1:Nat),i_1<(C m i).length->g/\e.ak (e.enc ((C m i).getD i_1 0))
 let k:=fun(m:ao)=>C5 (bC (c m))
 ab 2 ((h q/\mu (c q) [])/\u/\(p->True/\(h q/\cr (c q))/\(v q=true->t)/\(v q=false->True/\(j q/\nA (d q))/\u/\(p->True/\(r q/\nA
  (f q))/\True/\(false=true->z)/\(p->ab 2 (((j q/\r q)/\dp (d q)/\dp (f q))/\ab 2 ((A q=true->True/\(h q/\cr (c q))/\ab 2 ((((∀(i:Nat),
  i<(ae (c q)).length->g/\e.ak (e.enc ((ae (c q)).getD i 0)))/\j q)/\bM (eR (ae (c q))) (d q))/\ru true/\True/\(aW (cY (eR (ae (c q)))
  (d q))==0)=true/\True))/\(A q=false->True/\(B q=true->z)/\(B q=false->True/\(h q/\gp (c q))/\ab 3 (((D q/\j q)/\jO (k q) (d q))/\
  ab 2 (((D q/\r q)/\jO (k q) (f q))/\ru true/\True/\(W (ep (k q) (d q)-ep (k q) (f q))==1)=true/\True))))))))))))=vc209 q:=by kernel_rfl
theorem vc370_eq (q:ao) (e:Int):(
 let f:=fun(x:ao)=>x.fst
 let c:=aj
 let d:=cR
 let h:=fun(x:ao)=>x.snd
 let j:=fun(x:ao)=>(∀(i:Nat),i<(f x).length->true=true/\c.ak (c.enc ((f x).getD i 0)))/\d.ak (yc (h x).fst)/\d.ak (yc (h x).snd)
 let g:=fun(x:Int) (y:ao)=>((decide (lg x (cM y)<(0:Int))=false/\(dz (lg x (cM y))).length=(0:Nat)/\True)/\(1:Int)=(0:Int)
  /\True)/\True
 let k:=fun(x:Int)=>decide (x>64)
 let o:=fun(x:ao)=>(cM (nn x)).fst
 let p:=fun(x:ao)=>(cM (nn x)).snd
 let r:=fun(x:Int) (y:ao)=>(dz (lg x (nn (cM (nn y))))).length
 ab (2:Nat) ((j q/\rm (nn q))/\(false=true->ab (4:Nat) (g e q))/\(false=false->(decide (e<(0:Int))=true->ab (4:Nat) (g e q))/\(decide
  (e<(0:Int))=false->True/\(k e=true->ab (3:Nat) (g e q))/\(k e=false->True/\(j q/\gp (eR (f q)))/\ab (2:Nat) (((((∀(i:Nat),i<(o
  q).length->true=true/\c.ak (c.enc ((o q).getD i (0:Int))))/\d.ak (yc (p q).fst)/\d.ak (yc (p q).snd))/\True)/\qg (nn (cM (nn q))) e)/\ab
  (3:Nat) (((decide (lg e (nn (cM (nn q)))<(0:Int))=decide (lg e (cM q)<(0:Int))/\(r e q=(dz (lg e (cM q))).length/\ ∀(i:Nat),i<
  r e q->(dz (lg e (nn (cM (nn q))))).getD i (0:Int)=(dz (lg e (cM q))).getD i (0:Int)/\True)/\True)/\sm (0:Int)/\True)/\True)))))))=vc370 q e:=by kernel_rfl
theorem vc341_eq (z:Int):(
 let d:=fun(x:Int)=>decide (zz x<0)
 let f:=sm (0:Int)
 let e:=fun(x:Int)=>(dz (zz x)).length
 let g:=fun(x:Int)=>sm (e x)/\ ∀(i:Nat),i<e x->sm ((dz (zz x)).getD i 0)/\True
 let c:=fun(x:Int)=>(↑(e x):Int)
 let h:=ab 17 True
 let q:=fun(x:Int) (y:Nat)=>(aF IntKind.u32).enc ((dz x).getD y 0)
 let j:=fun(x:Int)=>List.map ar.shape [ar.s (SV.bool (decide (x<0))),ar.s (SV.aI 1 (dz x).length fun i=>q x i)]
 let k:=fun(x:Int)=>j x=j x/\pW x/\True
 let o:=fun(x y u:Int)=>bits BinOp.or IntKind.i64 x (W (W ((dz (zz y)).getD u.toNat 0)*2^min (IntKind.u64.wrap (W (32*u))).toNat 64))
 let p:=fun(x:Int)=>(↑(dz x).length:Int)
 ab 2 ((aj.ak (zc z)/\fit (zz z))/\ab 3 ((m9 z 0 0/\ab 3 (sm (d z)/\True/\f/\ab 7 (g z/\c z=c z/\f/\h))/\k z)/\ ∀(n n_1:Int),m9 z
  n n_1->True/\(decide (n<c z)=true->(0<=n/\n<c z)/\True/\0<=IntKind.u64.wrap (W (32*n))/\ab 2 (m9 z (W (n+1)) (o n_1 z n)/\(p z-W (n+
  1)).toNat<(p z-n).toNat/\ab 3 (sm (d z)/\True/\sm (o n_1 z n)/\ab 7 (g z/\c z=c z/\sm (W (n+1))/\h))/\k z))/\(decide (n<c z)=false->True
  /\(d z=true->ab 2 (W (0-n_1)=z/\True))/\(d z=false->ab 2 (n_1=z/\True))))))=vc341 z:=by kernel_rfl
theorem vc325_eq (q:ao):(
 let c:=fun(x:ao)=>x.fst
 let d:=fun(x:ao)=>x.snd
 let e:=sm (0:Int)/\True
 let f:=fun(x:ao)=>zz (lg 4 (cM (nn x)))
 ab 3 (((((∀(i:Nat),i<(c q).length->true=true/\aj.ak (aj.enc ((c q).getD i 0)))/\cR.ak (yc (d q).fst)/\cR.ak (yc (d q).snd))/\True)/\
  yL (nn q) 4)/\ab 2 ((false=true->ab 3 ((0=kX q/\e)/\True))/\(false=false->True/\(aj.ak (zc (lg 4 (cM (nn q))))/\uV (f q))/\ab
  3 ((f q=kX q/\e)/\True)))))=vc325 q:=by kernel_rfl
theorem IF {y:Int×Int} {e:Int} (h:rv y e):dp y/\0<=e/\e<=64:=by unfold rv at h;exact h
theorem Gn (y:Int×Int) (e:Int):eH y e=if y.2<=e then y.1*2^(e-y.2).toNat else y.1/2^(y.2-e).toNat:=by unfold eH;rfl
theorem KM {y:Int×Int} (h:dp y):(y.1.natAbs:Int)<pw 10000/\0<=y.2/\y.2<=320000:=by unfold dp at h;exact h
theorem div_abs (x:Int) (k:Nat):(x/2^k).natAbs<=x.natAbs:=by
 have hk:(0:Int)<2^k:=Int.pow_pos (by omega);rcases Int.le_total 0 x with h|h
 . have h1:=Kb h (Ju hk);have h2:=Z3 (2^k) h;omega
 . have h1:x/2^k<=0:=by
    rcases Int.lt_or_eq_of_le h with h|h
    . exact Ju (Int.ediv_neg_of_neg_of_pos h hk)
    . rw [h];simp
   have h2:x<=x/2^k:=by
    have:=Qp (a:=x) (b:=x) hk;refine this.2 ?_;have:=Int.mul_le_mul_of_nonpos_left (a:=x) (b:=2^k) (c:=1) h (by omega);omega
   omega
theorem EH {y:Int×Int} {e:Int} (h:dp y) (h1:e<=64):((eH y e).natAbs:Int)<pw 10003:=by
 obtain⟨a1,a2,a3⟩:=KM h;rw [Gn];split
 . exact rn (m:=2) a1 (by omega)
 . have h2:=div_abs y.1 (y.2-e).toNat;have h3:pw 10000<=pw 10003:=gT (by omega);omega
theorem Hx {y:Int×Int} {e:Int} (h:dp y) (h1:e<=64):fit (eH y e):=bz (EH h h1) (by omega)
theorem Lb {a:ao} {e:Int} (h:dp a.2.1) (h2:dp a.2.2) (h1:e<=64):fit (eH a.2.2 e-eH a.2.1 e):=by
 have b1:=EH h h1;have b2:=EH h2 h1;refine bz (k:=10004) ?_ (by omega);have:pw 10004=4294967296*pw 10003:=bD 10003;omega
theorem flrG_get {e:Int} {a:ao} (h:XK e a):dA a/\eJ a (eH a.2.2 e,e):=by unfold XK at h;exact h
theorem flrD_def (e:Int) (a:ao):kU e a=decide (aW (eH a.2.2 e-eH a.2.1 e)=0\/bl (eH a.2.2 e-eH a.2.1 e)=1):=by unfold kU TY;rfl
theorem floN_def (e:Int) (q:ao):lg e q=
 if aW (eH (xp (kU e) ai 3000 q).2.2 e-eH (xp (kU e) ai 3000 q).2.1 e)=0 then eH (xp (kU e) ai 3000 q).2.1 e else
 if 0<=gn (xp (kU e) ai 3000 q) (eH (xp (kU e) ai 3000 q).2.2 e,e)then eH (xp (kU e) ai 3000 q).2.2 e else eH (xp (kU e) ai 3000 q).2.1 e:=by unfold lg TY;rfl
theorem lgW_get {l:List (List Int)} (h:lgW l):l.length<=10/\ ∀p∈l,p.length<=17/\ ∀z∈p,fit z/\(dz z).length<=256:=by unfold lgW at h;exact h
theorem H4 {p q:List Int} (h:mu p q):lgW [p,q]/\lgW [dZ p q]/\bj 100000 p/\bj 100000 q:=by unfold mu at h;exact h
theorem one_row (p:List Int):(ah fm 1 fun i=>[SV.aI 2 p.length fun i=>aj.enc (p.getD i 0)])=[p]:=iJ (C:=fm) (l:=[p]) rfl
theorem two_rows (p q:List Int):(ah fm 2 fun i=>af (decide (i=1)) [SV.aI 2 q.length fun i=>aj.enc (q.getD i 0)] (af (decide (i=0)) [SV.aI 2 p.length fun i=>aj.enc (p.getD i 0)] [SV.aq]))=[p,q]:=by
 refine kj rfl fun i hi=> ?_
 have hp:fm.dec [SV.aI 2 p.length fun i=>aj.enc (p.getD i 0)]=some p:=fm.self p;have hq:fm.dec [SV.aI 2 q.length fun i=>aj.enc (q.getD i 0)]=some q:=fm.self q;rw [fm.Aa _ _ _ _ _ hq (fm.Aa _ _ _ _ _ hp (show fm.dec [SV.aq]=some []from rfl))];rcases(show i=0\/i=1 by omega)with rfl|rfl<;>rfl
theorem k406 :aH Tryz.prog T406:=av k86 hm Tryz.func406 (by kernel_rfl) (by kernel_rfl) sYI.ok (by kernel_rfl) (fun _=>[]) fun a hp=>by
 have h:vc406 a.1 a.2:=by
  rw [<-vc406_eq];simp only [aA];obtain⟨y,e⟩:=a
  try dsimp only at hp
  simp [-List.getD_eq_getElem?_getD];obtain⟨h1,h2,h3⟩:=IF hp;obtain⟨a1,a2,a3⟩:=KM h1;obtain⟨f1,f2⟩:=oe h1;have hs:=Gn y e;refine⟨fun h=> ?_,fun h=> ?_⟩
  . rw [aG (n:=e-y.2) (by omega) (by omega)];rw [if_pos h]at hs;rw [hs];exact⟨⟨f1,by unfold di;omega⟩,J9,rfl,fun _ _=>rfl⟩
  . rw [aG (n:=y.2-e) (by omega) (by omega)];rw [if_neg (by omega)]at hs;rw [hs];exact⟨⟨f1,by unfold di;omega⟩,J9,rfl,fun _ _=>rfl⟩
 exact h
theorem k396 :aH Tryz.prog T396:=av k406 hm Tryz.func396 (by kernel_rfl) (by kernel_rfl) sNI.ok (by kernel_rfl) (fun a=>a396 a.1 a.2) fun a hp=>by
 have h:vc396 a.1 a.2:=by
  rw [<-vc396_eq];simp only [aA];obtain⟨q,e⟩:=a
  try dsimp only at hp
  simp [-List.getD_eq_getElem?_getD];unfold qg at hp;obtain⟨p1,p2,p3⟩:=hp;refine⟨by unfold pB;exact⟨rfl,3000,J1 _,p3⟩,fun x1 x2 x3 x4 x5=> ?_⟩;intro hinv;unfold pB at hinv;obtain⟨g1,k,g2,g3⟩:=hinv;obtain⟨q1,q2⟩:=flrG_get (zd g3);obtain⟨r1,r2,r3⟩:=Hy q2;obtain⟨s1,s2,s3⟩:=mR r1;have hd:=flrD_def e (x1,(x2,x3),x4,x5);have hf:=floN_def e q;rw [<-g1]at hf;dsimp only at hd q1 q2 s1 s2;refine⟨by unfold rv;exact⟨s1,p1,p2⟩,by unfold rv;exact⟨s2,p1,p2⟩,⟨Hx s2 p2,Hx s1 p2⟩,Lb (a:=(x1,(x2,x3),x4,x5)) s1 s2 p2,fun h=> ?_,fun h=>⟨Lb (a:=(x1,(x2,x3),x4,x5)) s1 s2 p2,fun h'=>⟨⟨cR.kW (eH (x4,x5) e,e),q2⟩,fun h2=> ?_,fun h2=> ?_⟩,fun h'=> ?_⟩⟩
  . have hdd:kU e (x1,(x2,x3),x4,x5)=true:=by rw [hd];exact decide_eq_true (.inl h)
    rw [Ic hdd,if_pos h]at hf;dsimp only at hf;rw [hf];exact⟨J9,rfl,fun _ _=>rfl⟩
  . have hdd:kU e (x1,(x2,x3),x4,x5)=true:=by rw [hd];exact decide_eq_true (.inr h')
    rw [Ic hdd,if_neg h,if_pos h2]at hf;dsimp only at hf;rw [hf];exact⟨J9,rfl,fun _ _=>rfl⟩
  . have hdd:kU e (x1,(x2,x3),x4,x5)=true:=by rw [hd];exact decide_eq_true (.inr h')
    rw [Ic hdd,if_neg h,if_neg (by dsimp only;omega)]at hf;dsimp only at hf;rw [hf];exact⟨J9,rfl,fun _ _=>rfl⟩
  . have hdd:kU e (x1,(x2,x3),x4,x5)=false:=by rw [hd];exact decide_eq_false (by rintro(h1|h1);exact h h1;exact h' h1)
    obtain⟨⟨j,j1,j2⟩,t1,t2⟩:=IA g3 g2 hdd;refine⟨q1,by unfold pB;exact⟨by rw [t1,g1],j,by omega,j2⟩,by unfold HY;exact t2⟩
 exact h
theorem k210 :aH Tryz.prog T210:=av k396 hm Tryz.func210 (by kernel_rfl) (by kernel_rfl) sN.ok (by kernel_rfl) (fun _=>[]) fun a hp=>by
 have h:vc210 a:=by
  rw [<-vc210_eq];simp only [aA];generalize a=q at*
  try dsimp only at hp
  simp [-List.getD_eq_getElem?_getD];rw [show cM q=(bE q.1,q.2.1,q.2.2) by unfold cM;rfl];exact⟨hp,qE (bE q.1,q.2.1,q.2.2)⟩
 exact h
theorem k357 :aH Tryz.prog T357:=av k210 hm Tryz.func357 (by kernel_rfl) (by kernel_rfl) sQ.ok (by kernel_rfl) (fun a=>a357 a) fun a hp=>by
 have h:vc357 a:=by
  rw [<-vc357_eq];simp only [aA];generalize a=l at*
  try dsimp only at hp
  simp [-List.getD_eq_getElem?_getD];obtain⟨h1,h2⟩:=lgW_get hp;refine⟨by unfold fg;omega,fun n hn hn2=> ?_⟩;unfold fg at hn;have hm:l.getD n.toNat []∈l:=by
   rw [J0,J4 (show n.toNat<l.length by omega)];exact Ku _
  obtain⟨h3,h4⟩:=h2 _ hm;have ht:=cX (l.getD n.toNat []);refine⟨⟨by omega,hn2⟩,Ir (by omega) fun z hz=>(h4 z hz).1,by omega,fun _=>⟨⟨by omega,hn2,by unfold fg;omega⟩,fun j _ _ hj=>⟨fun hj2=> ?_,fun hj2=> ?_⟩⟩⟩
  . unfold fg at hj;obtain⟨h5,h6⟩:=h4 _ (memZ (c:=l.getD n.toNat []) (i:=j.toNat) (by omega));refine⟨⟨by omega,by omega⟩,h5,by omega,fun _=>⟨⟨by omega,hn2,?_⟩,?_⟩⟩
    . rw [aG (n:=j+1) (by omega) (by omega)];unfold fg;omega
    . rw [aG (n:=j+1) (by omega) (by omega)];omega
  . rw [aG (n:=n+1) (by omega) (by omega)];exact⟨by unfold fg;omega,by omega⟩
 exact h
theorem k358 :aH Tryz.prog T358:=av k357 hm Tryz.func358 (by kernel_rfl) (by kernel_rfl) sP.ok (by kernel_rfl) (fun _=>[]) fun a hp=>by
 have h:vc358 a:=by
  rw [<-vc358_eq];simp only [aA];generalize a=p at*
  try dsimp only at hp
  simp [-List.getD_eq_getElem?_getD];rw [one_row];exact hp
 exact h
theorem k301 :aH Tryz.prog T301:=av k358 hm Tryz.func301 (by kernel_rfl) (by kernel_rfl) Hs.ok (by kernel_rfl) (fun _=>[]) fun a hp=>by
 have h:vc301 a.1 a.2:=by
  rw [<-vc301_eq];simp only [aA];obtain⟨p,q⟩:=a
  try dsimp only at hp
  simp [-List.getD_eq_getElem?_getD];obtain⟨h1,h2,h3,h4⟩:=H4 hp;rw [two_rows];refine⟨⟨fun i hi j hj=> ?_,h1⟩,⟨h3,h4⟩,h2⟩;split
  . exact⟨by rw [aj.self];rfl,aj.kW _⟩
  . exact⟨by rw [aj.self];rfl,aj.kW _⟩
 exact h
theorem k253 :aH Tryz.prog T253:=av k301 hm Tryz.func253 (by kernel_rfl) (by kernel_rfl) sP.ok (by kernel_rfl) (fun _=>[]) fun a hp=>by
 have h:vc253 a:=by
  rw [<-vc253_eq];simp only [aA];generalize a=p at*
  try dsimp only at hp
  simp [-List.getD_eq_getElem?_getD];exact hp
 exact h
theorem k255 :aH Tryz.prog T255:=av k253 hm Tryz.func255 (by kernel_rfl) (by kernel_rfl) sY1.ok (by kernel_rfl) (fun _=>[]) fun a hp=>by
 have h:vc255 a:=by
  rw [<-vc255_eq];simp only [aA];generalize a=y at*
  try dsimp only at hp
  simp [-List.getD_eq_getElem?_getD];unfold nA at hp;exact⟨fun _=>⟨fun _=>⟨hp.2.2.1,hp.2.2.2⟩,hp.2.1⟩,hp.1⟩
 exact h
theorem k209 :aH Tryz.prog T209:=av k255 hm Tryz.func209 (by kernel_rfl) (by kernel_rfl) sN.ok (by kernel_rfl) (fun _=>[]) fun a hp=>by
 have h:vc209 a:=by
  rw [<-vc209_eq];simp only [aA];generalize a=q at*
  try dsimp only at hp
  simp [-List.getD_eq_getElem?_getD];unfold rm at hp;obtain⟨h1,h2,h3,h4,h5,h6,h7,h8⟩:=hp;refine⟨h1,h2,by omega,fun _=>⟨h4,h5,⟨h6,h7⟩,fun h=> ?_,fun h=> ?_⟩⟩
  . rcases h8 with⟨e1,e2,e3⟩|⟨e1,_⟩
    . exact⟨h2,e2,by rw [e3];exact gV⟩
    . rw [ju]at h;omega
  . rcases h8 with⟨e1,e2,e3⟩|⟨e1,e2,e3,e4,e5⟩
    . exact absurd (by rw [e1];exact gV) h
    . have: ¬aW (dd q.2.1 q.2.2)=1:=by rw [QL];omega
      exact⟨this,fun _=>⟨e2,e3,e4,by rw [e5];exact aG (by omega) (by omega)⟩⟩
 exact h
theorem k370 :aH Tryz.prog T370:=av k209 hm Tryz.func370 (by kernel_rfl) (by kernel_rfl) sNI.ok (by kernel_rfl) (fun _=>[]) fun a hp=>by
 have h:vc370 a.1 a.2:=by
  rw [<-vc370_eq];simp only [aA];obtain⟨q,e⟩:=a
  try dsimp only at hp
  simp [-List.getD_eq_getElem?_getD];unfold yL at hp;obtain⟨h1,h2,h3⟩:=hp;have h4:=h3;unfold qg at h4;exact⟨h1,h4.1,fun _=>⟨h4.2.1,fun _=>⟨h2,h3⟩⟩⟩
 exact h
theorem k341 :aH Tryz.prog T341:=av k370 hm Tryz.func341 (by kernel_rfl) (by kernel_rfl) sZ.ok (by kernel_rfl) (fun a=>a341 a) fun a hp=>by
 have h:vc341 a:=by
  rw [<-vc341_eq];simp only [aA];generalize a=z at*
  try dsimp only at hp
  simp [-List.getD_eq_getElem?_getD];unfold uV at hp;have hd:dz z=if z=0 then []else [(z.natAbs:Int)]:=by
   split
   . rename_i h;subst h;exact gz
   . unfold dz;rw [oM (by omega),show z.natAbs/4294967296=0 by omega,ur];simp;omega
  rw [hd];refine⟨bz (k:=1) (by rw [show pw 1=4294967296 from by unfold pw;rfl];omega) (by omega),by unfold m9;exact⟨by omega,by omega,fun _=>rfl,fun h=>by omega⟩,fun i n hinv=>⟨fun h=> ?_,fun h=> ?_⟩⟩
  . unfold m9 at hinv;rw [hd]at hinv;have hz:z≠0:=by rintro rfl;simp at h;omega
    rw [if_neg hz]at h hinv⊢;simp only [Jc,Kf]at h hinv⊢;have hi:i=0:=by omega
    subst hi;rw [hinv.2.2.1 rfl];have e1:W (32*0)=0:=aG (by omega) (by omega);have e2:W (0+1)=1:=aG (by omega) (by omega);rw [e1,e2];have e3:IntKind.u64.wrap 0=0:=by kernel_rfl
    rw [e3];refine⟨by omega,by omega,?_,by omega⟩;generalize hy:(z.natAbs:Int)=y;have hy0:0<=y:=by omega
    have hy1:y<2147483648:=by omega
    have e4:W (W (([y]:List Int).getD (0:Int).toNat 0)*2^min (0:Int).toNat 64)=y:=by
     show W (W y*2^0)=y
     rw [aG (n:=y) (by omega) (by omega)];rw [show y*2^0=y by simp];exact aG (by omega) (by omega)
    rw [e4];have e5:bits BinOp.or IntKind.i64 0 y=y:=by
     have e1:bits .or .i64 0 y=IntKind.i64.wrap ((BitVec.ofInt 64 0|||BitVec.ofInt 64 y).toNat:Int):=rfl;have e2:(BitVec.ofInt 64 0|||BitVec.ofInt 64 y).toNat=y.toNat:=by
      rw [BitVec.toNat_or,Xu,Xu,show((y%((2^64:Nat):Int)).toNat)=y.toNat by omega];simp
     rw [e1,e2,W_def,aG (by omega) (by omega)];omega
    rw [e5];unfold m9;rw [hd,if_neg hz,hy];exact⟨by omega,by simp,fun h=>by omega,fun _=>rfl⟩
  . unfold m9 at hinv;rw [hd]at hinv;have hn:n=(z.natAbs:Int):=by
     split at h
     . rename_i e;subst e;simp at h hinv;rw [hinv.2.2.1 (by omega)];rfl
     . simp at h hinv;exact hinv.2.2.2 (by omega)
    subst hn;exact⟨fun h=>by rw [aG (by omega) (by omega)];omega,fun h=>by omega⟩
 exact h
theorem k325 :aH Tryz.prog T325:=av k341 hm Tryz.func325 (by kernel_rfl) (by kernel_rfl) sN.ok (by kernel_rfl) (fun _=>[]) fun a hp=>by
 have h:vc325 a:=by
  rw [<-vc325_eq];simp only [aA];generalize a=q at*
  try dsimp only at hp
  simp [-List.getD_eq_getElem?_getD];unfold CB at hp;have e:lg 4 (cM q)=kX q:=by unfold kX;rfl
  rw [e];exact⟨hp.1,hp.2,rfl⟩
 exact h
end Go.Proofs.Big
namespace Go.Proofs.Big
open Go Go.Sx Go.Proofs Go.RowKit Go.Proofs.Top
abbrev I (n:Int):SV:= .int .i64 n
abbrev S (v:SV):ar:= .s v
abbrev Y (i:Nat) (lo hi:Int):SV:= .sy .i64 (.v i) lo hi
def Pz {α:Type} (rd:List SV->Option α) (pre:α->Prop) (args:α->List SV) (res:α->SV):bB:=fun l=>match rd l with
 |some a=>some (uP pk eL l (args a)/\pre a,res a)
 |none=>none
theorem fn_of {α:Type} [bW] {f:Nat} {rd:List SV->Option α} {pre:α->Prop} {args:α->List SV} {res:α->SV} (hf: ∃fn,Tryz.prog.funcs[f]?=some fn/\fn.body.isSome=true/\(fn.name== "runtime.NumGoroutine")=false)
 (H: ∀a,pre a->Oc Tryz.prog f (args a) (res a)):cS Tryz.prog f (Pz rd pre args res):=by
 refine⟨hf,fun l p r hc hp R w vals hR hrel=> ?_⟩;unfold Pz at hc;split at hc
 case h_2=>cases hc
 simp only [J3,Q4]at hc;obtain⟨rfl,rfl⟩:=hc;obtain⟨h1,h2⟩:=hp;refine(H _ h2 R w vals hR (kR (own':=Own.empty) h1 hrel)).mono ?_;rintro e w' ⟨v,R',k1,k2,k3⟩;exact⟨v,R',k1,k2,k3⟩
def vc2 (x y:Int):SV:= .agg [.s (.int .i64 x), .s (.int .i64 y)]
def B0 (x:Int):List SV:=[vc2 x 0,vc2 0 0,vc2 (-1) 0]
def am270 :List SV:=[.agg [S (Y 1 1 1000),S (I 0)], .agg [S (I 0),S (I 0)], .agg [S (I (-1)),S (I 0)]]
theorem m270 [bW]:cF XT 300 270 Tryz.f270 am270 .tt=true:=by kernel_rfl
@[reducible] def JG (x:Int):bW:=⟨fun _=>x,fun _=> .aI 1 0 fun _=>[],fun _=>rfl⟩
theorem ca270 [R0:bW] {x:Int} (h:1<=x/\x<=1000):Oc Tryz.prog 270 (B0 x) .tt:=by
 have hF: @Fact (JG x) Tryz.prog 270 am270 .tt:=by
  letI:=JG x
  exact au okT hm (by unfold XT;kernel_rfl) m270
 have ev: ∀i, @bW.val (JG x) i=x:=fun _=>rfl
 refine KO (JG x) R0 14 hF (by kernel_rfl) rfl rfl ?_ ?_ ?_
 . refine⟨@vh (JG x) 14 _ ?_, @vh (JG x) 14 _ ?_, @vh (JG x) 14 _ ?_,trivial⟩
   all_goals simp [G0,wK,mO,wI,XE.den,ev]
   omega
 . refine⟨oc ?_,oc ?_,oc ?_,trivial⟩<;>simp [oS,iF,wK,mO,wI,eE,vc2]
 . exact oc (by simp [oS])
def c270 :bB:=Pz (fun l=>match l with|[.agg (.s (.int _ x)::_),_,_]=>some x|_=>none) (fun x=>1<=x/\x<=1000) B0 fun _=> .tt
theorem f270_fn [bW]:cS Tryz.prog 270 c270:=fn_of ⟨Tryz.f270,Tryz.func270,by kernel_rfl,by kernel_rfl⟩ fun _ h=>ca270 h
end Go.Proofs.Big
namespace Go.Proofs.Big
open Go Go.Sx Go.Proofs
variable [bW]
set_option maxHeartbeats 4000000
attribute [local irreducible] lm nv tl dg dz
def sg270 :iR Int where
 n:=3
 enc:=B0
 dec l:=match l with
  |[.agg (.s (.int _ x)::_),_,_]=>some (uP pk eL l (B0 x),x)
  |_=>none
 ok l p a h hp:=by
  dsimp only at h;split at h
  . simp only [J3,Q4]at h;obtain⟨rfl,rfl⟩:=h;exact⟨hp,rfl⟩
  . cases h
def sIII2 :=iR.cons (DN .i64) (iR.cons (DN .i64) sI)
def C7 (c r n:Int):Prop:=0<=c/\c<=20000000/\r=100/\n=640000
def B1 (x:Int):Prop:=1<=x/\x<=1000
def lF (v s b:Int):Prop:= ∃k:Nat,k<=23/\b=2^k/2/\s=v/2^k*2^k
attribute [irreducible] C7 B1 lF
def c240 :bB:=fun args=>(Top.Ct args).map fun r=>(True,r)
def c39 :bB:=fun args=>(Top.R6 args).map fun r=>(True,r)
def c38 :bB:=fun args=>(Top.R4 args).map fun r=>(True,r)
def T240 :List (Nat×bB):=[(270,c270),(240,c240),(39,c39),(38,c38)]
def c197 :bB:=fl sIII2.dec (fun a=>C7 a.1 a.2.1 a.2.2) (fun a=> .bool (decide (a.1*a.1<a.2.1*a.2.1*a.2.2)))
def T197 :List (Nat×bB):=(197,c197)::T240
def vc197 (c:Int) (r:Int) (n:Int):Prop:=fQ T240 Tryz.f197 [] [iS c,iS r,iS n] (.bool (decide (c*c<r*r*n)))
def c276 :bB:=fl sg270.dec (fun a=>B1 a) (fun a=>iS a)
def T276 :List (Nat×bB):=(276,c276)::T197
def a276 (x:Int):List kM:=[⟨.unit, .list [.int .i64 (.tm 11), .int .i64 (.tm 12)],fun _ (s:Int×Int)=>lF x s.1 s.2,fun _ (s:Int×Int)=>s.2.toNat⟩]
def vc276 (x:Int):Prop:=fQ T197 Tryz.f276 (a276 x) [vc2 x 0,vc2 0 0,vc2 (-1) 0] (iS x)
theorem vc197_eq (c:Int) (r:Int) (n:Int):(
 let d:=fun(x y u:Int)=>decide (Top.wa (U x) (U x)<Top.wa (U (W (y*y))) (U u))
 let e:=fun(x y u:Int)=>Top.wa (U x) (U x)==Top.wa (U (W (y*y))) (U u)
 ab 9 ((d c r n=true->ab 2 (decide (c*c<r*r*n)=true/\True))/\(d c r n=false->(e c r n=true->ab 2 (decide (U (U c*U c)<U (U (W (r*r))
  *U n))=decide (c*c<r*r*n)/\True))/\(e c r n=false->ab 2 (decide (c*c<r*r*n)=false/\True)))))=vc197 c r n:=by kernel_rfl
theorem vc276_eq (x:Int):(
 let g:=sm (0:Int)
 let f:=g/\True
 let r:=(sm (-1)/\f)/\True
 let j:=sm (1:Int)
 let c:=fun(x:Int)=>U (W (0-Top.VJ (Top.RV x 0 0 0) (Top.H6 x 0 0 0) (-1) 0))
 let d:=fun(x:Int)=>Top.wa (c x) (c x)
 let k:=fun(x:Int)=>sm (U (c x*c x))
 let o:=ab 60 True
 let t:=ar.s (SV.int IntKind.i64 0)
 let p:=[t]
 let u:=fun(x:Int)=>List.map ar.shape (ar.s (SV.int IntKind.i64 x)::p)
 let v:=List.map ar.shape (t::p)
 let w:=List.map ar.shape (ar.s (SV.int IntKind.i64 (-1))::p)
 let q:=fun(x:Int)=>u x=u x/\(x=x/\f)/\v=v/\(g/\f)/\w=w/\r
 let y:=fun(x:Int)=>decide (x>0)
 let h:=fun(x m:Int)=>U (U (bits BinOp.or IntKind.i64 x m)*U (bits BinOp.or IntKind.i64 x m))
 let z:=(0:Int)<=(1:Int)
 let e:=fun(x:Int)=>x/2
 let A:=fun(x m s:Int)=>z/\True/\lF x (bits BinOp.or IntKind.i64 m s) (e s)/\(e s).toNat<s.toNat/\ab 8 (j/\sm (d x)/\k x/\sm (bits BinOp.or IntKind.i64
  m s)/\sm (e s)/\o)/\q x
 let B:=fun(x m s:Int)=>Top.wa (h x m) 1==d s
 let C:=fun(x m s:Int)=>decide (U (h x m*1)<=U (c s*c s))
 let D:=fun(x m s:Int)=>z/\True/\lF x m (e s)/\(e s).toNat<s.toNat/\ab 8 (j/\sm (d x)/\k x/\m=m/\sm (e s)/\o)/\q x
 ab (4:Nat) ((((x=x/\f)/\(g/\f)/\r)/\(1:Int)<=x/\x<=(1000:Int))/\ab (10:Nat) (ru true/\ab (6:Nat) ((lF x (0:Int) (4194304:Int)/\
  ab (8:Nat) (j/\sm (d x)/\k x/\g/\sm (4194304:Int)/\o)/\q x)/\ ∀(n n_1:Int),lF x n n_1->True/\(y n_1=true->ab (4:Nat) ((decide (Top.wa
  (h n n_1) (1:Int)<d x)=true->ab (2:Nat) (A x n n_1))/\(decide (Top.wa (h n n_1) (1:Int)<d x)=false->(B n n_1 x=true->True/\(C n n_1 x=
  true->True/\A x n n_1)/\(C n n_1 x=false->D x n n_1))/\(B n n_1 x=false->True/\D x n n_1))))/\(y n_1=false->ab (2:Nat) (n=x/\True))))))=vc276 x:=by kernel_rfl
theorem k240 :aH Tryz.prog T240:=⟨f270_fn.x,Top.Oe.x,Top.WN.x,Top.V4.x,trivial⟩
theorem E1 {z:Int} (h0:0<=z) (h:z<18446744073709551616):bits .and .u64 z 4294967295=z%4294967296:=by
 have e1:bits .and .u64 z 4294967295=IntKind.u64.wrap ((BitVec.ofInt 64 z&&&BitVec.ofInt 64 4294967295).toNat:Int):=rfl;have e2:(BitVec.ofInt 64 z&&&BitVec.ofInt 64 4294967295).toNat=z.toNat%2^32:=by
  rw [BitVec.toNat_and,Xu,Xu];rw [show((z%((2^64:Nat):Int)).toNat)=z.toNat by omega,show(((4294967295:Int)%((2^64:Nat):Int)).toNat)=2^32-1 by decide,Nat.and_two_pow_sub_one_eq_mod]
 rw [e1,e2,Su,ct (by omega) (by omega)];omega
theorem F6 {x y:Int} (hx:0<=x) (hx2:x<18446744073709551616) (hy:0<=y) (hy2:y<4294967296):Top.wa x y=(x/4294967296*y+(x%4294967296*y)/4294967296)/4294967296:=by
 unfold Top.wa;simp only [Su];rw [E1 hy (by omega),E1 hx hx2,show y%4294967296=y by omega,show y/4294967296=0 by omega];have a1:0<=x/4294967296:=by omega
 have a2:x/4294967296<=4294967295:=by omega
 have b1:0<=x%4294967296:=by omega
 have b2:x%4294967296<=4294967295:=by omega
 have c1:0<=x/4294967296*y:=Ja a1 hy;have c2:x/4294967296*y<=4294967295*4294967295:=Qb a2 (by omega) hy (by omega);have d1:0<=x%4294967296*y:=Ja b1 hy;have d2:x%4294967296*y<=4294967295*4294967295:=Qb b2 (by omega) hy (by omega);generalize x/4294967296*y=p at*
 generalize x%4294967296*y=q at*
 simp only [Int.mul_zero];rw [ct (n:=p) (by omega) (by omega),ct (n:=q) (by omega) (by omega),ct (n:=p+q/4294967296) (by omega) (by omega),ct (n:=0) (by omega) (by omega)];rw [E1 (by omega) (by omega)];rw [show(0:Int)+(p+q/4294967296)/4294967296=(p+q/4294967296)/4294967296 by omega,ct (n:=(p+q/4294967296)/4294967296) (by omega) (by omega)];rw [show(p+q/4294967296)%4294967296+0=(p+q/4294967296)%4294967296 by omega,ct (n:=(p+q/4294967296)%4294967296) (by omega) (by omega)]
 rw [ct (by omega) (by omega)];omega
theorem qC {x y:Int} (hx:0<=x) (hx2:x<4294967296) (hy:0<=y) (hy2:y<4294967296):Top.wa x y=0:=by
 rw [F6 hx (by omega) hy hy2,show x/4294967296=0 by omega,show x%4294967296=x by omega];have d1:0<=x*y:=Ja hx hy;have d2:x*y<=4294967295*4294967295:=Qb (by omega) (by omega) hy (by omega);generalize x*y=q at*
 omega
theorem Us {x:Int} (hx:0<=x) (hx2:x<18446744073709551616):Top.wa x 1=0:=by
 rw [F6 hx hx2 (by omega) (by omega)];omega
theorem GC {a b:Nat} (h:a<=b):(2:Int)^a<=2^b:=by exact_mod_cast Xv (by omega) h
theorem or_64 {u y:Int} {r:Nat} (hr:r<=40) (hu:0<=u) (hu2:u<2^r) (hy:0<=y) (hy2:y<=1000000):bits .or .i64 (2^r*y) u=2^r*y+u:=by
 have hp:=two_pos r;have hp2:(2:Int)^r<=2^40:=GC hr;have hb:(2:Int)^r*y<=2^40*1000000:=Qb hp2 hy2 hy (by omega);have h2:(2:Int)^40=1099511627776:=rfl;have h:u+2^r*y<9223372036854775808:=by omega
 have hy3:0<=(2:Int)^r*y:=Ja (by omega) hy;have:=yZ hu hu2 hy (by omega);have e0:=Bo u (2^r*y);have e1:bits .or .i64 (2^r*y) u=IntKind.i64.wrap ((BitVec.ofInt 64 (2^r*y)|||BitVec.ofInt 64 u).toNat:Int):=rfl;have e2:bits .or .u64 (2^r*y) u=IntKind.u64.wrap ((BitVec.ofInt 64 (2^r*y)|||BitVec.ofInt 64 u).toNat:Int):=rfl;rw [e0,e2,Su,ct (by omega) (by have:=(BitVec.ofInt 64 (2^r*y)|||BitVec.ofInt 64 u).isLt;omega)]at this
 rw [e1,this,W_def,aG (by omega) (by omega)];omega
theorem G2 (n:Int):RowKit.wrap64 n=W n:=by unfold RowKit.wrap64 W;simp [IntKind.wrap,IntKind.bits,IntKind.signed];split<;>omega
theorem qf {x y:Int} (h1: -1000000<=x) (h2:x<=1000000) (h3: -1000000<=y) (h4:y<=1000000):Top.iY x y=true:=by
 unfold Top.iY;simp;omega
theorem sub_0 {x:Int} (h1: -1000000<=x) (h2:x<=1000000):Top.RV x 0 0 0=x/\Top.H6 x 0 0 0=0:=by
 unfold Top.RV Top.H6;rw [qf h1 h2 (by omega) (by omega),qf (x:=0) (y:=0) (by omega) (by omega) (by omega) (by omega)];simp only [Bool.and_self,if_true,G2];rw [show x-0=x by omega,show(0:Int)-0=0 by omega,aG (n:=x) (by omega) (by omega),aG (n:=0) (by omega) (by omega)];unfold Top.kx Top.ky;rw [qf h1 h2 (by omega) (by omega)];exact⟨rfl,rfl⟩
theorem dot_m {x:Int} (h1: -1000000<=x) (h2:x<=1000000):Top.VJ x 0 (-1) 0= -x:=by
 unfold Top.VJ;rw [qf h1 h2 (by omega) (by omega),qf (x:= -1) (y:=0) (by omega) (by omega) (by omega) (by omega)];simp only [Bool.and_self,if_true,G2];rw [show(0:Int)*0=0 by omega,show x* -1= -x by omega,aG (n:= -x) (by omega) (by omega),aG (n:=0) (by omega) (by omega),aG (by omega) (by omega)];omega
theorem k197 :aH Tryz.prog T197:=av k240 hm Tryz.func197 (by kernel_rfl) (by kernel_rfl) sIII2.ok (by kernel_rfl) (fun _=>[]) fun a hp=>by
 have h:vc197 a.1 a.2.1 a.2.2:=by
  rw [<-vc197_eq];(conv=>zeta);simp only [aA];obtain⟨c,r,n⟩:=a
  try dsimp only at hp
  simp [-List.getD_eq_getElem?_getD];unfold C7 at hp;obtain⟨h1,h2,rfl,rfl⟩:=hp;have d1:0<=c*c:=Ja h1 h1;have d2:c*c<=20000000*20000000:=Qb h2 h2 h1 (by omega);rw [aG (n:=100*100) (by omega) (by omega),ct (n:=100*100) (by omega) (by omega),ct (n:=c) (by omega) (by omega),ct (n:=640000) (by omega) (by omega),qC h1 (by omega) h1 (by omega),qC (x:=100*100) (by omega) (by omega) (by omega) (by omega)];rw [ct (n:=c*c) (by omega) (by omega),ct (n:=100*100*640000) (by omega) (by omega)]
  exact⟨fun h=>by omega,fun _=>⟨fun _=>J9,fun h=>absurd rfl h⟩⟩
 exact h
theorem k276 :aH Tryz.prog T276:=av k197 hm Tryz.func276 (by kernel_rfl) (by kernel_rfl) sg270.ok (by kernel_rfl) (fun a=>a276 a) fun a hp=>by
 have h:vc276 a:=by
  rw [<-vc276_eq];(conv=>zeta);simp only [aA];generalize a=x at*
  try dsimp only at hp
  simp [-List.getD_eq_getElem?_getD];have hp':=hp;unfold B1 at hp;obtain⟨h1,h2⟩:=hp;obtain⟨e1,e2⟩:=sub_0 (x:=x) (by omega) (by omega);rw [e1,e2,dot_m (x:=x) (by omega) (by omega)]
  try rw [dot_m (x:= -1) (by omega) (by omega)]
  try rw [show-(-1:Int)=1 by omega]
  rw [show-(-x)=x by omega,aG (n:=x) (by omega) (by omega),ct (n:=x) (by omega) (by omega)]
  try rw [ct (n:=1) (by omega) (by omega)]
  rw [qC (x:=x) (by omega) (by omega) (by omega) (by omega)];have q1:0<=x*x:=Ja (by omega) (by omega);have q2:x*x<=1000*1000:=Qb h2 h2 (by omega) (by omega);rw [ct (n:=x*x) q1 (by omega)];refine⟨⟨h1,h2⟩,?_,fun s b hinv=>⟨fun hb=> ?_,fun hb=> ?_⟩⟩
  . unfold lF;refine⟨23,by omega,rfl,?_⟩;rw [show(2:Int)^23=8388608 from rfl,show x/8388608=0 by omega];rfl
  . unfold lF at hinv;obtain⟨k,hk,rfl,rfl⟩:=hinv;have hk0:k≠0:=by rintro rfl;simp at hb
    obtain⟨j,rfl⟩:=Nat.exists_eq_succ_of_ne_zero hk0;have hpj:=two_pos j;have hs2:(2:Int)^(j+1)=2*2^j:=by rw [Kk];omega
    have hbj:(2:Int)^(j+1)/2=2^j:=by omega
    have hpow:(2:Int)^j<=4194304:=by
     have:=GC (show j<=22 by omega);exact this
    simp only [Nat.succ_eq_add_one]at*
    rw [hbj]at*
    have hv0:0<=x/2^(j+1):=Kb (by omega) (by omega);have hx:x/2^(j+1)<=1000:=by
     have:=Z3 (a:=x) (2^(j+1)) (by omega);omega
    have cY:bits BinOp.or IntKind.i64 (x/2^(j+1)*2^(j+1)) (2^j)=2^(j+1)*(x/2^(j+1))+2^j:=by
     rw [J6];exact or_64 (r:=j+1) (by omega) (by omega) (by omega) hv0 (by omega)
    rw [cY];have hdiv:x/2^(j+1)=x/2^j/2:=by
     rw [Kk,<-Int.ediv_ediv_of_nonneg (by omega)]
    have hdm:=Qs x (2^j);have hmod0:=Jm x (show(2:Int)^j≠0 by omega);have hmod1:=Jo x hpj;have key:2^(j+1)*(x/2^(j+1))=2^j*(2*(x/2^j/2)):=by
     rw [hdiv,hs2,J6 2 (2^j),Jk]
    have key2:x/2^(j+1)*2^(j+1)=2^j*(2*(x/2^j/2)):=by rw [J6];exact key
    rw [key2,key];have hd0:0<=x/2^j:=Kb (by omega) (by omega);have hS: ∀s:Int,s=2^j*(x/2^j)->lF x s (2^j/2):=fun s hs=>by
     unfold lF;exact⟨j,by omega,rfl,by rw [hs,J6]⟩
    have hmx:max ((2:Int)^j/2) 0<2^j:=by omega
    have hsub:2^j*(2*(x/2^j/2))=if x/2^j%2=0 then 2^j*(x/2^j)else 2^j*(x/2^j)-2^j:=by
     split
     . congr 1;omega
     . rw [show 2*(x/2^j/2)=x/2^j-1 by omega,Qm,Ke]
    generalize hc:(2:Int)^j*(2*(x/2^j/2))=m at*
    generalize hP:(2:Int)^j*(x/2^j)=pd at*
    have hm0:0<=m:=by rw [<-hc];exact Ja (by omega) (by omega)
    have hc0:0<=m+2^j:=by omega
    have hc1:m+2^j<=4196304:=by split at hsub<;>omega
    rw [ct (n:=m+2^j) hc0 (by omega)];have d1:0<=(m+2^j)*(m+2^j):=Ja hc0 hc0;have d2:(m+2^j)*(m+2^j)<=4196304*4196304:=Qb hc1 hc1 hc0 (by omega);rw [ct d1 (by omega),Us d1 (by omega)]
    try rw [Ke]
    rw [ct d1 (by omega)];have hge:m+2^j<=x->(m+2^j)*(m+2^j)<=x*x:=fun h=>Qb h h hc0 (by omega)
    have hlt:x<m+2^j->x*x<(m+2^j)*(m+2^j):=fun h=>by
     have a1:x*x<=x*(m+2^j):=Jt (by omega) (by omega);have a2:x*(m+2^j)<(m+2^j)*(m+2^j):=X8 h (by omega);omega
    refine⟨fun h=>by omega,fun _=>⟨fun _=>⟨fun h=>⟨hS _ ?_,hmx⟩,fun h=>⟨hS _ ?_,hmx⟩⟩,fun h=>absurd rfl h⟩⟩
    . split at hsub
      . exact absurd (hlt (by omega)) (by omega)
      . omega
    . split at hsub
      . omega
      . exact absurd (hge (by omega)) (by omega)
  . unfold lF at hinv;obtain⟨k,hk,rfl,rfl⟩:=hinv;have hk0:k=0:=by
     rcases Jw k with h|h
     . exact h
     . obtain⟨j,rfl⟩:=Nat.exists_eq_succ_of_ne_zero (show k≠0 by omega);have hpj:=two_pos j;have hs2:(2:Int)^(j+1)=2*2^j:=by rw [Kk];omega
       simp only [Nat.succ_eq_add_one]at hb;omega
    subst hk0;simp
 exact h
end Go.Proofs.Big
