import Derived.Test.YtpjiopgakifhaaaGreatTJ
import Derived.Test.YtpjiopgakifhaaaGreatTQ
set_option linter.unusedSectionVars false
set_option linter.unusedSimpArgs false
set_option linter.unusedVariables false
set_option maxRecDepth 100000
namespace Go.Proofs.Big
open Go Go.Sx Go.Proofs
variable [bW]
attribute [local irreducible] lm nv tl dg dz
abbrev ao :=List Int×(Int×Int)×(Int×Int)
def ei :wN ao where
 n:=7
 enc a:=fm.enc a.1++(cR.enc a.2.1++cR.enc a.2.2)
 dec l:=match l with|[p,x,y,z,u,v,w]=>oB (fm.dec [p]) fun a=>oB (cR.dec [x,y,z]) fun b=>oB (cR.dec [u,v,w]) fun c=>some (a,b,c)|_=>none
 qW:=([],(0,0),(0,0))
 ak l:=match l with|[p,x,y,z,u,v,w]=>fm.ak [p]/\cR.ak [x,y,z]/\cR.ak [u,v,w]|_=>True
 ok l a h hg:=by
  split at h
  case h_2=>cases h
  obtain⟨a1,h1,h⟩:=gQ h;obtain⟨a2,h2,h⟩:=gQ h;obtain⟨a3,h3,h⟩:=gQ h;cases h;obtain⟨g1,g2,g3⟩:=hg;have k1:=fm.ok _ _ h1 g1;have k2:=cR.ok _ _ h2 g2;have k3:=cR.ok _ _ h3 g3;exact⟨k1.1,k2.1,k2.2.1,k2.2.2.1,k3.1,k3.2.1,k3.2.2.1,trivial⟩
 self a:=by
  have h1:fm.dec (fm.enc a.1)=some a.1:=fm.self a.1;have h2:cR.dec (cR.enc a.2.1)=some a.2.1:=cR.self a.2.1;have h3:cR.dec (cR.enc a.2.2)=some a.2.2:=cR.self a.2.2;show oB (fm.dec (fm.enc a.1)) (fun p=>oB (cR.dec (cR.enc a.2.1)) fun b=>oB (cR.dec (cR.enc a.2.2)) fun c=>some (p,b,c))=some a
  rw [h1,h2,h3];rfl
 kW a:=⟨fm.kW a.1,cR.kW a.2.1,cR.kW a.2.2⟩
 len _:=rfl
 Aa c x y a b h k:=by
  split at h
  case h_2=>cases h
  split at k
  case h_2=>cases k
  obtain⟨a1,h1,h⟩:=gQ h;obtain⟨a2,h2,h⟩:=gQ h;obtain⟨a3,h3,h⟩:=gQ h;obtain⟨b1,k1,k⟩:=gQ k;obtain⟨b2,k2,k⟩:=gQ k;obtain⟨b3,k3,k⟩:=gQ k;cases h;cases k;have e1:=fm.Aa c _ _ _ _ h1 k1;have e2:=cR.Aa c _ _ _ _ h2 k2;have e3:=cR.Aa c _ _ _ _ h3 k3;simp only [af]at e1 e2 e3⊢;simp only [e1,e2,e3,oB];cases c<;>rfl
@[simp] theorem codN_n :ei.n=7:=rfl
@[simp] theorem codN_dft :ei.qW=([],(0,0),(0,0)):=rfl
def yy (y:Int×Int):Int×Int:=(zz y.1,y.2)
def yc (y:Int×Int):List SV:=[SV.bool (decide (y.1<(0:Int))),SV.aI ((0:Nat)+(1:Nat)) (dz y.1).length fun i=>(aF IntKind.u32).enc ((dz y.1).getD i (0:Int)),SV.int IntKind.i64 y.2]
def C5 (l:List (List Int)):List (List Int):=ah fm l.length fun i=>fm.enc (l.getD i ([]:List Int))
abbrev MA :Arg ao:=argA ei
abbrev nS (a:ao):SV:=MA.enc a
def frN (l:List ao):SV:= .Gl 300 7 l.length fun i=>ei.enc (l.getD i ([],(0,0),(0,0)))
def sN :=iR.one MA
def sIII :=iR.cons (DN .i64) (iR.cons (DN .i64) sI)
def sS :=iR.cons Rm (iR.cons AB (iR.cons AB sIII))
def bJ :Nat->List (List Int)->Int×Int->Int×Int->Int->Int->List ao
 |0,l,lo,hi,f,t=>if f-t=0 then []else [(l.getD 0 [],lo,hi)]
 |k+1,l,lo,hi,f,t=>if f-t=0 then []else if f-t=1 then [(l.getD 0 [],lo,hi)]else bJ k l lo (bb lo hi) f (ep l (bb lo hi))++bJ k l (bb lo hi) hi (ep l (bb lo hi)) t
def CA :Nat->List (List Int)->Int×Int->Int×Int->Int->Int->Prop
 |0,l,lo,hi,f,t=>0<l.length/\(0<=f/\f<=1000/\0<=t/\t<=1000)/\(f-t=0\/f-t=1)
 |k+1,l,lo,hi,f,t=>0<l.length/\(0<=f/\f<=1000/\0<=t/\t<=1000)/\(f-t=0\/f-t=1\/(dp lo/\dp hi/\(bb lo hi).2<=1073741824/\jO l (bb lo hi)/\CA k l lo (bb lo hi) f (ep l (bb lo hi))/\CA k l (bb lo hi) hi (ep l (bb lo hi)) t/\(bJ k l lo (bb lo hi) f (ep l (bb lo hi))).length+(bJ k l (bb lo hi) hi (ep l (bb lo hi)) t).length<=1000))
attribute [irreducible] bJ CA
def c404 (k:Nat):bB:=fl sS.dec (fun a=>CA k a.1 a.2.1 a.2.2.1 a.2.2.2.1 a.2.2.2.2.1/\a.2.2.2.2.2=1073741824) (fun a=> .bp [frN (bJ k a.1 a.2.1 a.2.2.1 a.2.2.2.1 a.2.2.2.2.1), .bool true])
def Hm (k:Nat):List (Nat×bB):=(404,c404 k)::Wh
def M0 (l:List (List Int)) (lo:Int×Int) (hi:Int×Int) (f:Int) (t:Int) (m:Int):Prop:=fQ Wh Tryz.f404 [] [qS l,yS lo,yS hi,iS f,iS t,iS m] (.bp [frN (bJ 0 l lo hi f t), .bool true])
def TI (k:Nat) (l:List (List Int)) (lo:Int×Int) (hi:Int×Int) (f:Int) (t:Int) (m:Int):Prop:=fQ (Hm k) Tryz.f404 [] [qS l,yS lo,yS hi,iS f,iS t,iS m] (.bp [frN (bJ (k+1) l lo hi f t), .bool true])
def Tv :=iR.cons Pp (iR.cons AB (iR.cons AB sI))
def bR (p:List Int) (lo hi:Int×Int):List ao:=if(bC p).length<2 then []else bJ 3000 (bC p) lo hi (ep (bC p) lo) (ep (bC p) hi)
def je (p:List Int) (lo hi:Int×Int) (m:Int):Prop:=gp p/\m=1073741824/\((bC p).length<2\/(jO (bC p) lo/\jO (bC p) hi/\CA 3000 (bC p) lo hi (ep (bC p) lo) (ep (bC p) hi)))
def MU :List (Nat×bB):=Hm 3000
attribute [irreducible] bR je
def c388 :bB:=fl Tv.dec (fun a=>je a.1 a.2.1 a.2.2.1 a.2.2.2) (fun a=> .bp [frN (bR a.1 a.2.1 a.2.2.1), .bool true])
def Vi :List (Nat×bB):=(388,c388)::MU
def SA (p:List Int) (lo:Int×Int) (hi:Int×Int) (m:Int):Prop:=fQ MU Tryz.f388 [] [pS p,yS lo,yS hi,iS m] (.bp [frN (bR p lo hi), .bool true])
theorem RU (l:List (List Int)) (lo:Int×Int) (hi:Int×Int) (f:Int) (t:Int) (m:Int):(
 let p:=fun(x y:Int)=>W (x-y)==0
 let c:=fun(x:List (List Int)) (y m:Int×Int) (t x1:Int)=>(bJ 0 x y m t x1).length
 let d:=true=true
 let q:=fun(x y:Int)=>W (x-y)==1
 let e:=fun(x:List (List Int))=>x.getD 0 []
 let r:=((0:Int),(0:Int))
 let g:=fun(x:List (List Int)) (y m:Int×Int) (t x1:Int) (y1:Nat)=>(bJ 0 x y m t x1).getD y1 ([],r,r)
 let o:=fun(x:List (List Int)) (y m:Int×Int) (t x1:Int) (y1 u1:Nat)=>(g x y m t x1 y1).fst.getD u1 0
 let s:=fun(x:List (List Int)) (y:Nat)=>(dz ((e x).getD y 0)).length
 let u:=fun(x:Int×Int)=>decide (x.fst<0)
 let h:=fun(x:List (List Int)) (y m:Int×Int) (t x1:Int) (y1:Nat)=>(g x y m t x1 y1).snd.fst
 let j:=fun(x:Int×Int)=>(dz x.fst).length
 let k:=fun(x:List (List Int)) (y m:Int×Int) (t x1:Int) (y1:Nat)=>(g x y m t x1 y1).snd.snd
 let v:=fun(x:Int×Int)=>cR.ak (yc x)
 let w:=fun(x y:Int×Int) (m:Int)=>decide ((bb (yy x) (yy y)).snd>m)
 ab (3:Nat) ((p f t=true->ab (2:Nat) ((c l lo hi f t=(0:Nat)/\d/\True)/\True))/\(p f t=false->True/\(q f t=true->((0:Int)<=(0:Int)/\
  (0:Int)< ↑l.length)/\ru true/\True/\((sm (0:Nat)/\(1:Nat)=c l lo hi f t/\c l lo hi f t<=(1:Nat))/\(∀(i:Nat),i<c l lo hi f t->d/\((e l).length
  =(g l lo hi f t i).fst.length/\ ∀(i_1:Nat),i_1<(e l).length->decide ((e l).getD i_1 (0:Int)<(0:Int))=decide (o l lo hi f t i i_1<(0:Int))/\(s
  l i_1=(dz (o l lo hi f t i i_1)).length/\ ∀(i_2:Nat),i_2<s l i_1->(dz ((e l).getD i_1 (0:Int))).getD i_2 (0:Int)=(dz (o l lo hi f t i i_1)).getD i_2
  (0:Int)/\True)/\True)/\u lo=decide ((h l lo hi f t i).fst<(0:Int))/\(j lo=(dz (h l lo hi f t i).fst).length/\ ∀(i_1:Nat),i_1<j lo->(dz lo.fst).getD
  i_1 (0:Int)=(dz (h l lo hi f t i).fst).getD i_1 (0:Int)/\True)/\lo.snd=(h l lo hi f t i).snd/\u hi=decide ((k l lo hi f t i).fst<(0:Int))/\(j hi
  =(dz (k l lo hi f t i).fst).length/\ ∀(i_1:Nat),i_1<j hi->(dz hi.fst).getD i_1 (0:Int)=(dz (k l lo hi f t i).fst).getD i_1 (0:Int)/\True)/\hi.snd
  =(k l lo hi f t i).snd/\True)/\d/\True)/\True)/\(q f t=false->ab (2:Nat) (((v lo/\v hi)/\dp (yy lo)/\dp (yy hi))/\ab (2:Nat) ((w lo hi m=true
  ->ab (2:Nat) ((c l lo hi f t=(0:Nat)/\true=false/\True)/\True))/\(w lo hi m=false->ab (2:Nat) ((((∀(i:Nat),i<l.length->d/\ ∀(i_1:Nat),
  i_1<(l.getD i []).length->d/\aj.ak (aj.enc ((l.getD i []).getD i_1 (0:Int))))/\cR.ak (yc (bb (yy lo) (yy hi))))/\jO (C5 l) (yy (bb (yy
  lo) (yy hi))))/\True/\False))))))))=M0 l lo hi f t m:=by kernel_rfl
theorem Nf (k:Nat) (l:List (List Int)) (lo:Int×Int) (hi:Int×Int) (f:Int) (t:Int) (m:Int):(
 let J:=fun(m t:Int)=>W (m-t)==0
 let g:=fun(m:Nat) (t:List (List Int)) (x1 y1:Int×Int) (u1 v1:Int)=>(bJ (m+1) t x1 y1 u1 v1).length
 let p:=true=true
 let E:=p/\True
 let K:=fun(m t:Int)=>W (m-t)==1
 let F:=sm 0
 let s:=fun(m:List (List Int))=>m.getD 0 []
 let L:=((0:Int),(0:Int))
 let u:=(([],L,L):List Int×(Int×Int)×Int×Int)
 let q:=fun(m t:Nat) (x1:List (List Int)) (y1 u1:Int×Int) (v1 w1:Int)=>((bJ (m+1) x1 y1 u1 v1 w1).getD t u).fst
 let M:=fun(m:List (List Int)) (t:Nat)=>(dz ((s m).getD t 0)).length
 let N:=fun(m:Int×Int)=>decide (m.fst<0)
 let c:=fun(m t:Nat) (x1:List (List Int)) (y1 u1:Int×Int) (v1 w1:Int)=>((bJ (m+1) x1 y1 u1 v1 w1).getD t u).snd
 let O:=fun(m t:Nat) (x1:List (List Int)) (y1 u1:Int×Int) (v1 w1:Int)=>decide ((c m t x1 y1 u1 v1 w1).fst.fst<0)
 let w:=fun(m:Int×Int)=>(dz m.fst).length
 let P:=fun(m t x1:Nat) (y1:List (List Int)) (u1 v1:Int×Int) (w1 m1:Int)=>(dz (c m t y1 u1 v1 w1 m1).fst.fst).getD x1 0
 let Q:=fun(m t:Nat) (x1:List (List Int)) (y1 u1:Int×Int) (v1 w1:Int)=>decide ((c m t x1 y1 u1 v1 w1).snd.fst<0)
 let R:=fun(m t x1:Nat) (y1:List (List Int)) (u1 v1:Int×Int) (w1 m1:Int)=>(dz (c m t y1 u1 v1 w1 m1).snd.fst).getD x1 0
 let x:=fun(m:Int×Int)=>cR.ak (yc m)
 let T:=fun(m t:Int×Int) (x1:Int)=>decide ((bb (yy m) (yy t)).snd>x1)
 let c0:=fun(m:Nat) (t:List (List Int)) (x1 y1:Int×Int) (u1 v1:Int)=>ab 2 ((g m t x1 y1 u1 v1=0/\true=false/\True)/\True)
 let v:=aj
 let G:=fun(m:List (List Int))=> ∀(i:Nat),i<m.length->p/\ ∀(i_1:Nat),i_1<(m.getD i []).length->p/\v.ak (v.enc ((m.getD i []).getD i_1 0))
 let H:=fun(m t:Int×Int)=>cR.ak (yc (bb (yy m) (yy t)))
 let e:=fun(m t:Int×Int)=>yy (bb (yy m) (yy t))
 let c1:=ab 2 True
 let o:=fun(m:List (List Int)) (t x1:Int×Int)=>ep (C5 m) (e t x1)
 let y:=fun(m:Nat) (t:List (List Int)) (x1 y1:Int×Int) (u1:Int)=>(bJ m (C5 t) (e x1 y1) (yy y1) (o t x1 y1) u1).length
 let z:=fun(m:Nat) (t:List (List Int)) (x1 y1:Int×Int) (u1:Int)=>(bJ m (C5 t) (yy x1) (e x1 y1) u1 (o t x1 y1)).length
 let A:=fun(m:Nat) (t:List (List Int)) (x1 y1:Int×Int) (u1 v1:Int)=>z m t x1 y1 u1+y m t x1 y1 v1
 let d:=fun(m t:Nat) (x1:List (List Int)) (y1 u1:Int×Int) (v1:Int)=>decide (m<z t x1 y1 u1 v1)
 let c2:=fun(m t:Nat) (x1:List (List Int)) (y1 u1:Int×Int) (v1:Int)=>((bJ m (C5 x1) (yy y1) (e y1 u1) v1 (o x1 y1 u1)).getD t u).fst
 let B:=fun(m t:Nat) (x1:List (List Int)) (y1 u1:Int×Int) (v1 w1:Int)=>(bJ m (C5 x1) (e y1 u1) (yy u1) (o x1 y1 u1) v1).getD (0+(t-z m x1
  y1 u1 w1)) u
 let c3:=fun(m t:Nat) (x1:List (List Int)) (y1 u1:Int×Int) (v1 w1:Int)=>if d m t x1 y1 u1 v1=true then(c2 t m x1 y1 u1 v1).length else(B t m x1
  y1 u1 w1 v1).fst.length
 let h:=fun(m t:Nat) (x1:List (List Int)) (y1 u1:Int×Int) (v1:Int)=>((bJ m (C5 x1) (yy y1) (e y1 u1) v1 (o x1 y1 u1)).getD t u).snd
 let C:=fun(m t:Nat) (x1:List (List Int)) (y1 u1:Int×Int) (v1 w1:Int)=>(B m t x1 y1 u1 v1 w1).snd.fst
 let c4:=fun(m t:Nat) (x1:List (List Int)) (y1 u1:Int×Int) (v1 w1:Int)=>if d m t x1 y1 u1 v1=true then(dz (h t m x1 y1 u1 v1).fst.fst).length else
  (dz (C t m x1 y1 u1 w1 v1).fst).length
 let r:=aF IntKind.u32
 let D:=fun(m t:Nat) (x1:List (List Int)) (y1 u1:Int×Int) (v1 w1:Int)=>(B m t x1 y1 u1 v1 w1).snd.snd
 let c5:=fun(m t:Nat) (x1:List (List Int)) (y1 u1:Int×Int) (v1 w1:Int)=>if d m t x1 y1 u1 v1=true then(dz (h t m x1 y1 u1 v1).snd.fst).length else
  (dz (D t m x1 y1 u1 w1 v1).fst).length
 ab (3:Nat) ((J f t=true->ab (2:Nat) ((g k l lo hi f t=(0:Nat)/\E)/\True))/\(J f t=false->True/\(K f t=true->((0:Int)<=(0:Int)/\(0:
  Int)< ↑l.length)/\ru true/\True/\((F/\(1:Nat)=g k l lo hi f t/\g k l lo hi f t<=(1:Nat))/\(∀(i:Nat),i<g k l lo hi f t->p/\((s l).length=
  (q k i l lo hi f t).length/\ ∀(i_1:Nat),i_1<(s l).length->decide ((s l).getD i_1 (0:Int)<(0:Int))=decide ((q k i l lo hi f t).getD i_1 (0:Int)<
  (0:Int))/\(M l i_1=(dz ((q k i l lo hi f t).getD i_1 (0:Int))).length/\ ∀(i_2:Nat),i_2<M l i_1->(dz ((s l).getD i_1 (0:Int))).getD i_2 (0:Int)
  =(dz ((q k i l lo hi f t).getD i_1 (0:Int))).getD i_2 (0:Int)/\True)/\True)/\N lo=O k i l lo hi f t/\(w lo=(dz (c k i l lo hi f t).fst.fst).length/\
  ∀(i_1:Nat),i_1<w lo->(dz lo.fst).getD i_1 (0:Int)=P k i i_1 l lo hi f t/\True)/\lo.snd=(c k i l lo hi f t).fst.snd/\N hi=Q k i l lo hi f t/\(w
  hi=(dz (c k i l lo hi f t).snd.fst).length/\ ∀(i_1:Nat),i_1<w hi->(dz hi.fst).getD i_1 (0:Int)=R k i i_1 l lo hi f t/\True)/\hi.snd=(c k i l lo
  hi f t).snd.snd/\True)/\E)/\True)/\(K f t=false->ab (2:Nat) (((x lo/\x hi)/\dp (yy lo)/\dp (yy hi))/\ab (2:Nat) ((T lo hi m=true->c0 k l lo
  hi f t)/\(T lo hi m=false->ab (2:Nat) (((G l/\H lo hi)/\jO (C5 l) (e lo hi))/\ab (7:Nat) (((G l/\x lo/\H lo hi/\c1)/\CA k (C5 l) (yy lo)
  (e lo hi) f (o l lo hi)/\m=(1073741824:Int))/\ab (2:Nat) ((false=true->c0 k l lo hi f t)/\(false=false->ab (6:Nat) (((G l/\H lo hi/\x hi/\c1)
  /\CA k (C5 l) (e lo hi) (yy hi) (o l lo hi) t/\m=(1073741824:Int))/\True/\(0:Nat)+y k l lo hi t<=y k l lo hi t/\(∀(j:Nat),j<y k l lo hi t->
  p)/\(F/\sm (z k l lo hi f)/\A k l lo hi f t<=(140737488355328:Nat)/\A k l lo hi f t*(104:Nat)<=(140737488355328:Nat))/\ab (2:Nat) (((F/\A k l
  lo hi f t=g k l lo hi f t/\g k l lo hi f t<=A k l lo hi f t)/\(∀(i:Nat),i<g k l lo hi f t->p/\(c3 i k l lo hi f t=(q k i l lo hi f t).length/\ ∀(i_1
  :Nat),i_1<c3 i k l lo hi f t->bK (if d i k l lo hi f=true then v.enc ((c2 k i l lo hi f).getD i_1 (0:Int))else v.enc ((B k i l lo hi t f).fst.getD i_1
  (0:Int))) (v.enc ((q k i l lo hi f t).getD i_1 (0:Int))))/\(if d i k l lo hi f=true then decide ((h k i l lo hi f).fst.fst<(0:Int))else decide ((C k
  i l lo hi t f).fst<(0:Int)))=O k i l lo hi f t/\(c4 i k l lo hi f t=(dz (c k i l lo hi f t).fst.fst).length/\ ∀(i_1:Nat),i_1<c4 i k l lo hi f t->
  bK (if d i k l lo hi f=true then r.enc ((dz (h k i l lo hi f).fst.fst).getD i_1 (0:Int))else r.enc ((dz (C k i l lo hi t f).fst).getD i_1 (0:Int))) (r.enc
  (P k i i_1 l lo hi f t)))/\(if d i k l lo hi f=true then(h k i l lo hi f).fst.snd else(C k i l lo hi t f).snd)=(c k i l lo hi f t).fst.snd/\(if d i k l lo
  hi f=true then decide ((h k i l lo hi f).snd.fst<(0:Int))else decide ((D k i l lo hi t f).fst<(0:Int)))=Q k i l lo hi f t/\(c5 i k l lo hi f t=(dz
  (c k i l lo hi f t).snd.fst).length/\ ∀(i_1:Nat),i_1<c5 i k l lo hi f t->bK (if d i k l lo hi f=true then r.enc ((dz (h k i l lo hi f).snd.fst).getD i_1
  (0:Int))else r.enc ((dz (D k i l lo hi t f).fst).getD i_1 (0:Int))) (r.enc (R k i i_1 l lo hi f t)))/\(if d i k l lo hi f=true then(h k i l lo hi f).snd.snd
  else(D k i l lo hi t f).snd)=(c k i l lo hi f t).snd.snd/\True)/\E)/\True)))))))))))))=TI k l lo hi f t m:=by kernel_rfl
theorem M4 (p:List Int) (lo:Int×Int) (hi:Int×Int) (m:Int):(
 let c:=true=true
 let e:=aj
 let x:=fun(m:List Int)=>(bC (eR m)).length
 let y:=fun(m:List Int)=>decide (↑(x m)<(2:Int))
 let f:=fun(m:List Int) (x1 y1:Int×Int)=>(bR m x1 y1).length
 let z:=fun(m:List Int) (x1:Nat)=>(bC (eR m)).getD x1 []
 let A:=fun(m:List Int)=> ∀(i:Nat),i<x m->c/\ ∀(i_1:Nat),i_1<(z m i).length->c/\e.ak (e.enc ((z m i).getD i_1 0))
 let u:=fun(m:Int×Int)=>cR.ak (yc m)
 let g:=fun(m:List Int)=>C5 (bC (eR m))
 let B:=fun(m:List Int) (x1:Int×Int)=>(A m/\u x1)/\jO (g m) (yy x1)
 let h:=fun(m:List Int) (x1:Int×Int)=>ep (g m) (yy x1)
 let j:=fun(m:List Int) (x1 y1:Int×Int)=>bJ 3000 (g m) (yy x1) (yy y1) (h m x1) (h m y1)
 let C:=((0:Int),(0:Int))
 let k:=(([],C,C):List Int×(Int×Int)×Int×Int)
 let d:=fun(m:List Int) (x1 y1:Int×Int) (u1:Nat)=>((j m x1 y1).getD u1 k).fst
 let o:=fun(m:List Int) (x1 y1:Int×Int) (u1:Nat)=>((bR m x1 y1).getD u1 k).fst
 let q:=fun(m:List Int) (x1 y1:Int×Int) (u1:Nat)=>((j m x1 y1).getD u1 k).snd
 let r:=fun(m:List Int) (x1 y1:Int×Int) (u1:Nat)=>(q m x1 y1 u1).fst.fst
 let s:=fun(m:List Int) (x1 y1:Int×Int) (u1:Nat)=>((bR m x1 y1).getD u1 k).snd
 let v:=fun(m:List Int) (x1 y1:Int×Int) (u1:Nat)=>(s m x1 y1 u1).fst.fst
 let t:=fun(m:List Int) (x1 y1:Int×Int) (u1:Nat)=>(q m x1 y1 u1).snd.fst
 let w:=fun(m:List Int) (x1 y1:Int×Int) (u1:Nat)=>(s m x1 y1 u1).snd.fst
 ab 2 (((∀(i:Nat),i<p.length->c/\e.ak (e.enc (p.getD i 0)))/\gp (eR p))/\ab 2 ((y p=true->ab 2 ((f p lo hi=0/\c/\True)/\True))/\(y p
  =false->ab 2 (B p lo/\ab 2 (B p hi/\ab 6 (((A p/\u lo/\u hi/\ab 2 True)/\CA 3000 (g p) (yy lo) (yy hi) (h p lo) (h p hi)/\m=1073741824)/\ru true
  /\True/\((sm 0/\(j p lo hi).length=f p lo hi/\f p lo hi<=(j p lo hi).length)/\(∀(i:Nat),i<f p lo hi->c/\((d p lo hi i).length=(o p lo hi i).length
  /\ ∀(i_1:Nat),i_1<(d p lo hi i).length->decide ((d p lo hi i).getD i_1 0<0)=decide ((o p lo hi i).getD i_1 0<0)/\((dz ((d p lo hi i).getD i_1 0)).length
  =(dz ((o p lo hi i).getD i_1 0)).length/\ ∀(i_2:Nat),i_2<(dz ((d p lo hi i).getD i_1 0)).length->(dz ((d p lo hi i).getD i_1 0)).getD i_2 0=(dz ((o p lo
  hi i).getD i_1 0)).getD i_2 0/\True)/\True)/\decide (r p lo hi i<0)=decide (v p lo hi i<0)/\((dz (r p lo hi i)).length=(dz (v p lo hi i)).length/\ ∀
  (i_1:Nat),i_1<(dz (r p lo hi i)).length->(dz (r p lo hi i)).getD i_1 0=(dz (v p lo hi i)).getD i_1 0/\True)/\(q p lo hi i).fst.snd=(s p lo hi i).fst.snd
  /\decide (t p lo hi i<0)=decide (w p lo hi i<0)/\((dz (t p lo hi i)).length=(dz (w p lo hi i)).length/\ ∀(i_1:Nat),i_1<(dz (t p lo hi i)).length->
  (dz (t p lo hi i)).getD i_1 0=(dz (w p lo hi i)).getD i_1 0/\True)/\(q p lo hi i).snd.snd=(s p lo hi i).snd.snd/\True)/\c/\True)/\True)))))))=SA p lo hi m:=by kernel_rfl
@[simp] theorem yy_eq (y:Int×Int):yy y=y:=by unfold yy;simp
@[simp] theorem yc_good (y:Int×Int):cR.ak (yc y):=cR.kW y
@[simp] theorem rwQ_eq (l:List (List Int)):C5 l=l:=iJ (C:=fm) rfl
theorem zA (l:List (List Int)) (lo hi:Int×Int) (f t:Int):bJ 0 l lo hi f t=if f-t=0 then []else [(l.getD 0 [],lo,hi)]:=by unfold bJ;rfl
theorem jF (k:Nat) (l:List (List Int)) (lo hi:Int×Int) (f t:Int):bJ (k+1) l lo hi f t=if f-t=0 then []else if f-t=1 then [(l.getD 0 [],lo,hi)]else bJ k l lo (bb lo hi) f (ep l (bb lo hi))++bJ k l (bb lo hi) hi (ep l (bb lo hi)) t:=by rw [bJ]
theorem Tj {l:List (List Int)} {lo hi:Int×Int} {f t:Int}:CA 0 l lo hi f t↔0<l.length/\(0<=f/\f<=1000/\0<=t/\t<=1000)/\(f-t=0\/f-t=1):=by unfold CA;exact J9
theorem BQ {k:Nat} {l:List (List Int)} {lo hi:Int×Int} {f t:Int}:CA (k+1) l lo hi f t↔0<l.length/\(0<=f/\f<=1000/\0<=t/\t<=1000)/\(f-t=0\/f-t=1\/(dp lo/\dp hi/\(bb lo hi).2<=1073741824/\jO l (bb lo hi)/\CA k l lo (bb lo hi) f (ep l (bb lo hi))/\CA k l (bb lo hi) hi (ep l (bb lo hi)) t/\(bJ k l lo (bb lo hi) f (ep l (bb lo hi))).length+(bJ k l (bb lo hi) hi (ep l (bb lo hi)) t).length<=1000)):=by
 conv=>lhs;unfold CA
theorem xP {α:Type} (l m:List α) (i:Nat) (d:α):(l++m).getD i d=if i<l.length then l.getD i d else m.getD (i-l.length) d:=by
 simp only [J0];split
 . rename_i h;rw [Ka h]
 . rename_i h;rw [Jy (by omega)]
theorem GP (z:Int):bK (aj.enc z) (aj.enc z):=aj.ok _ _ (aj.self _) (aj.kW _)
theorem Zl :aH Tryz.prog (Hm 0):=av k259 hm Tryz.func404 (by kernel_rfl) (by kernel_rfl) sS.ok (by kernel_rfl) (fun _=>[]) fun a hp=>by
 have h:M0 a.1 a.2.1 a.2.2.1 a.2.2.2.1 a.2.2.2.2.1 a.2.2.2.2.2:=by
  rw [<-RU];(conv=>zeta);simp only [aA];obtain⟨l,lo,hi,f,t,m⟩:=a
  try dsimp only at hp
  simp [-List.getD_eq_getElem?_getD];obtain⟨h1,h2,h3⟩:=Tj.1 hp.1;rw [aG (n:=f-t) (by omega) (by omega),zA];refine⟨fun h=>if_pos h,fun h=>⟨fun h4=> ?_,fun h4=>by omega⟩⟩;rw [if_neg h];refine⟨h1,⟨rfl,by simp⟩,fun i hi=> ?_⟩;have e:i=0:=by simpa using hi
  subst e;exact⟨⟨rfl,fun j hj=>⟨J9,rfl,fun _ _=>rfl⟩⟩,J9,⟨rfl,fun _ _=>rfl⟩,rfl,J9,⟨rfl,fun _ _=>rfl⟩,rfl⟩
 exact h
theorem aae {k:Nat} (hk:aH Tryz.prog (Hm k)):aH Tryz.prog (Hm (k+1)):=by
 have h0:aH Tryz.prog ((404,c404 (k+1))::Hm k):=av hk hm Tryz.func404 (by kernel_rfl) (by kernel_rfl) sS.ok (by kernel_rfl) (fun _=>[]) fun a hp=>by
  have h:TI k a.1 a.2.1 a.2.2.1 a.2.2.2.1 a.2.2.2.2.1 a.2.2.2.2.2:=by
   rw [<-Nf];(conv=>zeta);simp only [aA];obtain⟨l,lo,hi,f,t,m⟩:=a
   try dsimp only at hp
   simp [-List.getD_eq_getElem?_getD];obtain⟨h1,h2,h3⟩:=BQ.1 hp.1;have hm:=hp.2;rw [aG (n:=f-t) (by omega) (by omega),jF];refine⟨fun h=>if_pos h,fun h=>⟨fun h4=> ?_,fun h4=> ?_⟩⟩
   . rw [if_neg h,if_pos h4];refine⟨h1,⟨rfl,by simp⟩,fun i hi=> ?_⟩;have e:i=0:=by simpa using hi
     subst e;exact⟨⟨rfl,fun j hj=>⟨J9,rfl,fun _ _=>rfl⟩⟩,J9,⟨rfl,fun _ _=>rfl⟩,rfl,J9,⟨rfl,fun _ _=>rfl⟩,rfl⟩
   . rw [if_neg h,if_neg h4];rcases h3 with h3|h3|⟨s1,s2,s3,s4,s5,s6,s7⟩
     . exact absurd h3 h
     . exact absurd h3 h4
     . refine⟨⟨s1,s2⟩,by omega,fun _=>⟨s4,⟨s5,hm⟩,⟨s6,hm⟩,?_⟩⟩;generalize bJ k l lo (bb lo hi) f (ep l (bb lo hi))=A at*
       generalize bJ k l (bb lo hi) hi (ep l (bb lo hi)) t=B at*
       refine⟨⟨by omega,by omega⟩,⟨by simp,by simp⟩,fun i hi=> ?_⟩;rw [xP]
       by_cases hc:i<A.length
       . simp only [hc,if_true];generalize A.getD i ([],(0,0),(0,0))=v;exact⟨⟨trivial,fun j _=>GP _⟩,trivial,⟨trivial,fun j _=>⟨rfl,trivial⟩⟩,trivial,trivial,⟨trivial,fun j _=>⟨rfl,trivial⟩⟩,trivial⟩
       . simp only [hc,if_false];generalize B.getD (i-A.length) ([],(0,0),(0,0))=v;exact⟨⟨trivial,fun j _=>GP _⟩,trivial,⟨trivial,fun j _=>⟨rfl,trivial⟩⟩,trivial,trivial,⟨trivial,fun j _=>⟨rfl,trivial⟩⟩,trivial⟩
  exact h
 exact⟨h0.1,hk.2⟩
theorem Zw : ∀k,aH Tryz.prog (Hm k)
 |0=>Zl
 |k+1=>aae (Zw k)
theorem kT404 :aH Tryz.prog MU:=Zw 3000
theorem z8 (p:List Int) (lo hi:Int×Int):bR p lo hi=if(bC p).length<2 then []else bJ 3000 (bC p) lo hi (ep (bC p) lo) (ep (bC p) hi):=by unfold bR;rfl
theorem k388 :aH Tryz.prog Vi:=av kT404 hm Tryz.func388 (by kernel_rfl) (by kernel_rfl) Tv.ok (by kernel_rfl) (fun _=>[]) fun a hp=>by
 have h:SA a.1 a.2.1 a.2.2.1 a.2.2.2:=by
  rw [<-M4];(conv=>zeta);simp only [aA];obtain⟨p,lo,hi,m⟩:=a
  try dsimp only at hp
  simp [-List.getD_eq_getElem?_getD];unfold je at hp;obtain⟨h1,h2,h3⟩:=hp;rw [z8];refine⟨h1,fun h=>if_pos (by omega),fun h=> ?_⟩;rw [if_neg (by omega)];obtain⟨h4,h5,h6⟩:=h3.resolve_left (by omega);refine⟨h4,h5,⟨h6,h2⟩,⟨rfl,J1 _⟩,fun i hi=>⟨⟨rfl,fun j hj=>⟨J9,rfl,fun _ _=>rfl⟩⟩,J9,⟨rfl,fun _ _=>rfl⟩,rfl,J9,⟨rfl,fun _ _=>rfl⟩,rfl⟩⟩
 exact h
def sNY :=iR.cons MA (iR.one AB)
def sNN :=iR.cons MA (iR.one MA)
def Ac (a:ao):Bool:=decide (aW (dd a.2.1 a.2.2)=0)
def gn (a:ao) (y:Int×Int):Int:=
 if Ac a then aW (dd a.2.1 y)else if aW (dd y a.2.1)<=0 then 1 else if 0<aW (dd y a.2.2)then-1 else
 if aW (dd y a.2.2)=0 then(if aW (cY a.1 a.2.2)=0 then 0 else-1)else
 if aW (cY a.1 y)=0 then 0 else if aW (cY a.1 y)=aW (cY a.1 a.2.2)then-1 else 1
def ai (a:ao):ao:=if Ac a then a else if gn a (bb a.2.1 a.2.2)<=0 then(a.1,a.2.1,bb a.2.1 a.2.2)else(a.1,bb a.2.1 a.2.2,a.2.2)
def ql (a:ao):Prop:=dp a.2.1/\dp a.2.2/\bM a.1 a.2.2
def eJ (a:ao) (y:Int×Int):Prop:=ql a/\dp y/\bM a.1 y
def dA (a:ao):Prop:=ql a/\dp (bb a.2.1 a.2.2)/\bM a.1 (bb a.2.1 a.2.2)
def il (a b:ao):Prop:=ql a/\ql b/\Ac a=false/\Ac b=false/\aW (dd b.2.2 a.2.1)<=0/\0<aW (dd a.2.2 b.2.1)/\aW (dd b.2.1 a.2.1)<=0/\aW (dd b.2.2 a.2.2)<0/\0<=aW (dd a.2.1 b.2.2)
attribute [irreducible] Ac gn ai ql eJ dA il
def c286 :bB:=fl sN.dec (fun a=>dp a.2.1/\dp a.2.2) (fun a=> .bool (Ac a))
def VR :List (Nat×bB):=(286,c286)::Vi
def Sv (q:ao):Prop:=fQ Vi Tryz.f286 [] [nS q] (.bool (Ac q))
def c313 :bB:=fl sNY.dec (fun a=>eJ a.1 a.2) (fun a=>iS (gn a.1 a.2))
def W5 :List (Nat×bB):=(313,c313)::VR
def S9 (q:ao) (y:Int×Int):Prop:=fQ VR Tryz.f313 [] [nS q,yS y] (iS (gn q y))
def c263 :bB:=fl sN.dec (fun a=>dA a) (fun a=>nS (ai a))
def Vy :List (Nat×bB):=(263,c263)::W5
def Sq (q:ao):Prop:=fQ W5 Tryz.f263 [] [nS q] (nS (ai q))
def c262 :bB:=fl sNN.dec (fun a=>il a.1 a.2) (fun a=> .bool false)
def Uf :List (Nat×bB):=(262,c262)::Vy
def SC (q:ao) (r:ao):Prop:=fQ Vy Tryz.f262 [] [nS q,nS r] (.bool false)
def c211 :bB:=fl sNN.dec (fun a=>il a.1 a.2) (fun a=>iS 1)
def T211 :List (Nat×bB):=(211,c211)::Uf
def ZM (q:ao) (r:ao):List kM:=[⟨.unit, .list [.N2 ei 0 0, .N2 ei 1 0],fun _ (x:ao×ao)=>x.1=q/\x.2=r,fun _ (x:ao×ao)=>0⟩]
def TX (q:ao) (r:ao):Prop:=fQ Uf Tryz.f211 (ZM q r) [nS q,nS r] (iS 1)
theorem Ly (q:ao):(
 let e:=fun(x:ao)=>x.snd
 let c:=fun(x:ao)=>(e x).fst
 let d:=fun(x:ao)=>(e x).snd
 ab 3 (((cR.ak (yc (c q))/\cR.ak (yc (d q)))/\dp (yy (c q))/\dp (yy (d q)))/\ab 2 ((aW (dd (yy (c q)) (yy (d q)))==0)=Ac q/\True)))=Sv q:=by kernel_rfl
theorem Pn (q:ao) (y:Int×Int):(
 let g:=fun(y:ao)=>y.fst
 let h:=fun(y:ao)=> ∀(i:Nat),i<(g y).length->true=true/\aj.ak (aj.enc ((g y).getD i 0))
 let r:=fun(y:ao)=>y.snd
 let e:=fun(y:ao)=>(r y).fst
 let j:=fun(y:ao)=>cR.ak (yc (e y))
 let c:=fun(y:ao)=>(r y).snd
 let k:=fun(y:ao)=>cR.ak (yc (c y))
 let o:=fun(y:ao)=>dp (yy (e y))
 let d:=fun(y:ao)=>eR (g y)
 let s:=fun(y:ao)=>Ac (d y,yy (e y),zz (c y).fst,(c y).snd)
 let f:=fun(y:Int×Int)=>cR.ak (yc y)
 let t:=fun(y:Int×Int) (m:ao)=>decide (aW (dd (yy y) (yy (e m)))<=0)
 let u:=fun(y:ao) (m:Int×Int)=>ab 2 (1=gn y m/\True)
 let v:=fun(y:Int×Int) (m:ao)=>decide (aW (dd (yy y) (yy (c m)))>0)
 let p:=fun(y:ao) (m:Int×Int)=>ab 2 (-1=gn y m/\True)
 let w:=fun(y:Int×Int) (m:ao)=>aW (dd (yy y) (yy (c m)))==0
 let x:=fun(y:ao)=>aW (cY (d y) (yy (c y)))
 let z:=fun(y:ao)=>x y==0
 let A:=fun(y:ao) (m:Int×Int)=>ab 2 (0=gn y m/\True)
 let B:=fun(y:ao) (m:Int×Int)=>aW (cY (d y) (yy m))==0
 let C:=fun(y:ao) (m:Int×Int)=>aW (cY (d y) (yy m))==x y
 ab 2 (((h q/\j q/\k q)/\o q/\dp (yy (c q)))/\True/\(s q=true->ab 2 (((j q/\f y)/\o q/\dp (yy y))/\ab 2 (aW (dd (yy (e q)) (yy y))=gn q
  y/\True)))/\(s q=false->ab 2 (((f y/\j q)/\dp (yy y)/\o q)/\True/\(t y q=true->u q y)/\(t y q=false->ab 2 (((f y/\k q)/\dp (yy y)/\dp (yy
  (c q)))/\ab 2 ((v y q=true->p q y)/\(v y q=false->ab 2 (((h q/\k q)/\bM (d q) (yy (c q)))/\ab 2 ((w y q=true->True/\(z q=true->A q y)/\
  (z q=false->p q y))/\(w y q=false->ab 2 (((h q/\f y)/\bM (d q) (yy y))/\ab 2 ((B q y=true->A q y)/\(B q y=false->True/\(C q y=true->p
  q y)/\(C q y=false->u q y)))))))))))))))=S9 q y:=by kernel_rfl
theorem Lx (q:ao):(
 let f:=fun(m:ao)=>m.fst
 let g:=fun(m:ao) (x1:Nat)=>(f m).getD x1 0
 let t:=fun(m:ao)=>m.snd
 let c:=fun(m:ao)=>(t m).fst
 let e:=fun(m:ao)=>(t m).snd
 let u:=fun(m:ao)=>cR.ak (yc (c m))/\cR.ak (yc (e m))
 let v:=fun(m:ao)=>(∀(i:Nat),i<(f m).length->true=true/\aj.ak (aj.enc (g m i)))/\u m
 let w:=fun(m:ao)=>dp (yy (c m))/\dp (yy (e m))
 let h:=fun(m:ao)=>(e m).fst
 let o:=fun(m:ao)=>(eR (f m),yy (c m),zz (h m),(e m).snd)
 let p:=fun(m:ao)=>(ai m).fst
 let s:=fun(m:ao)=>(f m).length=(p m).length/\ ∀(i:Nat),i<(f m).length->decide (g m i<0)=decide ((p m).getD i 0<0)/\((dz (g m i)).length=
  (dz ((p m).getD i 0)).length/\ ∀(i_1:Nat),i_1<(dz (g m i)).length->(dz (g m i)).getD i_1 0=(dz ((p m).getD i 0)).getD i_1 0/\True)/\True
 let x:=fun(m:ao)=>(ai m).snd
 let j:=fun(m:ao)=>(x m).fst
 let y:=fun(m:ao)=>decide ((j m).fst<0)
 let z:=fun(m:ao)=>decide ((c m).fst<0)=y m
 let A:=fun(m:ao)=>(dz (c m).fst).length
 let B:=fun(m:ao)=>(dz (j m).fst).length
 let C:=fun(m:ao) (x1:Nat)=>(dz (j m).fst).getD x1 0
 let D:=fun(m:ao)=>A m=B m/\ ∀(i:Nat),i<A m->(dz (c m).fst).getD i 0=C m i/\True
 let E:=fun(m:ao)=>(c m).snd=(j m).snd
 let k:=fun(m:ao)=>(x m).snd
 let F:=fun(m:ao)=>decide ((k m).fst<0)
 let G:=fun(m:ao)=>(dz (k m).fst).length
 let H:=fun(m:ao) (x1:Nat)=>(dz (k m).fst).getD x1 0
 let J:=fun(m:ao)=>decide (h m<0)=F m/\((dz (h m)).length=G m/\ ∀(i:Nat),i<(dz (h m)).length->(dz (h m)).getD i 0=H m i/\True)/\(e m).snd
  =(k m).snd/\True
 let d:=fun(m:ao)=>bb (yy (c m)) (yy (e m))
 let K:=fun(m:ao)=>decide (gn (o m) (yy (d m))<=0)
 let L:=fun(m:ao)=>decide ((d m).fst<0)
 let r:=fun(m:ao)=>(dz (d m).fst).length
 let M:=fun(m:ao) (x1:Nat)=>(dz (d m).fst).getD x1 0
 ab 2 ((v q/\w q)/\True/\(Ac (o q)=true->ab 2 ((s q/\z q/\D q/\E q/\J q)/\True))/\(Ac (o q)=false->ab 2 ((u q/\w q)/\ab 3 (((v q/\cR.ak
  (yc (d q)))/\eJ (o q) (yy (d q)))/\True/\(K q=true->ab 3 ((s q/\z q/\D q/\E q/\L q=F q/\(r q=G q/\ ∀(i:Nat),i<r q->M q i=H q i/\True)
  /\(d q).snd=(k q).snd/\True)/\True))/\(K q=false->ab 3 ((s q/\L q=y q/\(r q=B q/\ ∀(i:Nat),i<r q->M q i=C q i/\True)/\(d q).snd=(j q).snd
  /\J q)/\True)))))))=Sq q:=by kernel_rfl
theorem OA (q:ao) (r:ao):(
 let w:=fun(m:ao)=>m.fst
 let x:=fun(m:ao)=> ∀(i:Nat),i<(w m).length->true=true/\aj.ak (aj.enc ((w m).getD i 0))
 let y:=fun(m:ao)=>m.snd
 let z:=fun(m:ao)=>(y m).fst
 let d:=fun(m:ao)=>cR.ak (yc (z m))
 let p:=fun(m:ao)=>(y m).snd
 let e:=fun(m:ao)=>cR.ak (yc (p m))
 let A:=fun(m:ao)=>x m/\d m/\e m
 let c:=fun(m:ao)=>yy (z m)
 let f:=fun(m:ao)=>dp (c m)
 let g:=fun(m:ao)=>yy (p m)
 let h:=fun(m:ao)=>dp (g m)
 let B:=fun(m:ao)=>A m/\f m/\h m
 let j:=fun(m:ao)=>eR (w m)
 let k:=fun(m:ao)=>(j m,c m,zz (p m).fst,(p m).snd)
 let C:=fun(m r:ao)=>Ac (k m)=true->ab 2 (((A r/\d m)/\eJ (k r) (c m))/\ab 2 ((gn (k r) (c m)==0)=false/\True))
 let D:=fun(m r:ao)=>decide (aW (dd (c m) (c r))>0)
 let E:=fun(m r:ao)=>(e m/\e r)/\h m/\h r
 let s:=fun(m r:ao)=>decide (aW (dd (g m) (g r))<0)
 let F:=fun(m:ao)=>(d m/\e m)/\f m/\h m
 let t:=fun(m:ao)=>decide (aW (dd (c m) (g m))>=0)
 let o:=ab 2 (false=false/\True)
 let G:=fun(m r:ao)=>decide (↑(eU (j m) (j r)).length>(1:Int))
 let u:=fun(m r:ao)=>ab 2 (((x m/\x r)/\vR (j m) (j r))/\True/\(G m r=true->False)/\(G m r=false->o))
 let H:=fun(m r:ao)=>(d m/\e r)/\f m/\h r
 let v:=fun(m r:ao)=>decide (aW (dd (c m) (g r))>=0)
 ab 2 (B q/\True/\C q r/\(Ac (k q)=false->True/\B r/\True/\C r q/\(Ac (k r)=false->ru true/\ab 2 (((d r/\d q)/\f r/\f q)/\True/\(D r q=true
  ->ab 3 (E r q/\True/\(s r q=true->ab 3 (F r/\True/\(t r=true->o)/\(t r=false->u q r)))/\(s r q=false->ab 2 (H r q/\True/\(v r q=true->o)
  /\(v r q=false->u q r)))))/\(D r q=false->ab 2 (E r q/\True/\(s r q=true->ab 3 (H q r/\True/\(v q r=true->o)/\(v q r=false->u q r)))/\(s
  r q=false->ab 2 (F q/\True/\(t q=true->o)/\(t q=false->u q r))))))))))=SC q r:=by kernel_rfl
theorem Mg (q:ao) (r:ao):(
 let E:=fun(m:ao)=>m.snd
 let o:=fun(m:ao)=>(E m).snd
 let F:=fun(m:ao)=>cR.ak (yc (o m))
 let e:=fun(m:ao)=>(E m).fst
 let G:=fun(m:ao)=>cR.ak (yc (e m))
 let t:=fun(m r:ao)=>(F m/\G r)/\dp (yy (o m))/\dp (yy (e r))
 let u:=fun(m r:ao)=>decide (aW (dd (yy (o m)) (yy (e r)))<0)
 let H:=ab 2 (-1=1/\True)
 let J:=ab (2:Nat) (sm (1:Int)/\True)
 let h:=fun(m:ao)=>m.fst
 let v:=fun(m:ao)=>(h m).length
 let p:=fun(m:ao) (r:Nat)=>(h m).getD r 0
 let y:=fun(m:ao)=>(∀(i:Nat),i<v m->true=true/\aj.ak (aj.enc (p m i)))/\G m/\F m
 let c:=fun(m:ao)=>(o m).fst
 let z:=fun(m:ao)=>(o m).snd
 let j:=fun(m:ao)=>(eR (h m),yy (e m),zz (c m),z m)
 let K:=ab 36 True
 let c0:=fun(m:ao)=>fun i=>aj.enc (p m i)
 let f:=fun(m:ao)=>(e m).fst
 let A:=fun(m:ao)=>(dz (f m)).length
 let c1:=fun(m:ao) (r:Nat)=>(aF IntKind.u32).enc ((dz (f m)).getD r 0)
 let B:=fun(m:ao)=>(dz (c m)).length
 let c2:=fun(m:ao) (r:Nat)=>(aF IntKind.u32).enc ((dz (c m)).getD r 0)
 let L:=fun(m:ao)=>List.map ar.shape [ar.s (SV.aI 2 (v m) (c0 m)),ar.s (SV.bool (decide (f m<0))),ar.s (SV.aI 1 (A m) fun i=>c1 m i),ar.s (SV.int
  IntKind.i64 (e m).snd),ar.s (SV.bool (decide (c m<0))),ar.s (SV.aI 1 (B m) fun i=>c2 m i),ar.s (SV.int IntKind.i64 (z m))]
 let w:=fun(m:ao)=>L m=L m
 let M:=fun(m:ao)=>(v m=(eR (h m)).length/\ ∀(i:Nat),i<v m->decide (p m i<0)=decide ((eR (h m)).getD i 0<0)/\((dz (p m i)).length=(dz
  ((eR (h m)).getD i 0)).length/\ ∀(i_1:Nat),i_1<(dz (p m i)).length->(dz (p m i)).getD i_1 0=(dz ((eR (h m)).getD i 0)).getD i_1 0/\True)/\True)/\decide
  (f m<0)=decide (zz (f m)<0)/\(A m=(dz (zz (f m))).length/\ ∀(i:Nat),i<A m->(dz (f m)).getD i 0=(dz (zz (f m))).getD i 0/\True)/\sm (e m).snd
  /\decide (c m<0)=decide (zz (c m)<0)/\(B m=(dz (zz (c m))).length/\ ∀(i:Nat),i<B m->(dz (c m)).getD i 0=(dz (zz (c m))).getD i 0/\True)/\sm (z
  m)/\True
 let x:=fun(m r:ao)=>decide (aW (dd (yy (o m)) (yy (e r)))<=0)
 let N:=fun(m:ao)=>y m/\dA (j m)
 let d:=fun(m:ao)=>(ai (j m)).fst
 let O:=fun(m:ao)=>(ai (j m)).snd
 let C:=fun(m:ao)=>(O m).fst
 let D:=fun(m:ao)=>(O m).snd
 let g:=fun(m:ao)=>(D m).fst
 let P:=fun(m r:ao)=>(eR (d m),yy (C m),zz (g m),(D m).snd)=r
 let Q:=fun(m:ao) (r:Nat)=>(dz ((d m).getD r 0)).length
 let R:=fun(m:ao) (r:Nat)=>dz ((eR (d m)).getD r 0)
 let k:=fun(m:ao)=>(C m).fst
 let T:=fun(m:ao)=>((d m).length=(eR (d m)).length/\ ∀(i:Nat),i<(d m).length->decide ((d m).getD i 0<0)=decide ((eR (d m)).getD i 0<0)/\
  (Q m i=(R m i).length/\ ∀(i_1:Nat),i_1<Q m i->(dz ((d m).getD i 0)).getD i_1 0=(R m i).getD i_1 0/\True)/\True)/\decide (k m<0)=decide (zz (k m)
  <0)/\((dz (k m)).length=(dz (zz (k m))).length/\ ∀(i:Nat),i<(dz (k m)).length->(dz (k m)).getD i 0=(dz (zz (k m))).getD i 0/\True)/\sm (C m).snd/\
  decide (g m<0)=decide (zz (g m)<0)/\((dz (g m)).length=(dz (zz (g m))).length/\ ∀(i:Nat),i<(dz (g m)).length->(dz (g m)).getD i 0=(dz (zz (g m))).getD
  i 0/\True)/\sm (D m).snd/\True
 ab (3:Nat) (t q r/\True/\(u q r=true->H)/\(u q r=false->ab (2:Nat) (t r q/\True/\(u r q=true->J)/\(u r q=false->ab (2:Nat) (((y q/\y
  r)/\il (j q) (j r))/\True/\(false=true->ab (2:Nat) ((0:Int)=(1:Int)/\True))/\(false=false->((j q=q/\j r=r)/\K/\w q/\M q/\w r/\M
  r/\True)/\ ∀(a a_1:ao),a=q/\a_1=r->ab (2:Nat) (t a a_1/\True/\(x a a_1=true->H)/\(x a a_1=false->ab (2:Nat) (t a_1 a/\True/\(x a_1 a
  =true->J)/\(x a_1 a=false->True/\N a/\True/\N a_1/\ru true/\(P a q/\P a_1 r)/\(0:Nat)<(0:Nat)/\K/\w q/\T a/\w r/\T a_1/\True)))))))))))=TX q r:=by kernel_rfl
theorem mR {q:ao} (h:ql q):dp q.2.1/\dp q.2.2/\bM q.1 q.2.2:=by unfold ql at h;exact h
theorem Hy {q:ao} {y:Int×Int} (h:eJ q y):ql q/\dp y/\bM q.1 y:=by unfold eJ at h;exact h
theorem zJ {q:ao} (h:dA q):ql q/\dp (bb q.2.1 q.2.2)/\bM q.1 (bb q.2.1 q.2.2):=by unfold dA at h;exact h
theorem etaN (q:ao):(q.1,q.2.1,q.2.2.1,q.2.2.2)=q:=rfl
theorem Iz (a:ao):Ac a=decide (aW (dd a.2.1 a.2.2)=0):=by unfold Ac;rfl
theorem vf (a:ao) (y:Int×Int):gn a y=
 if Ac a then aW (dd a.2.1 y)else if aW (dd y a.2.1)<=0 then 1 else if 0<aW (dd y a.2.2)then-1 else
 if aW (dd y a.2.2)=0 then(if aW (cY a.1 a.2.2)=0 then 0 else-1)else
 if aW (cY a.1 y)=0 then 0 else if aW (cY a.1 y)=aW (cY a.1 a.2.2)then-1 else 1:=by unfold gn;rfl
theorem BS (a:ao):ai a=if Ac a then a else if gn a (bb a.2.1 a.2.2)<=0 then(a.1,a.2.1,bb a.2.1 a.2.2)else(a.1,bb a.2.1 a.2.2,a.2.2):=by unfold ai;rfl
theorem k286 :aH Tryz.prog VR:=av k388 hm Tryz.func286 (by kernel_rfl) (by kernel_rfl) sN.ok (by kernel_rfl) (fun _=>[]) fun a hp=>by
 have h:Sv a:=by
  rw [<-Ly];(conv=>zeta);simp only [aA];generalize a=q at*
  try dsimp only at hp
  simp [-List.getD_eq_getElem?_getD];exact⟨hp,by rw [Iz];rfl⟩
 exact h
theorem k313 :aH Tryz.prog W5:=av k286 hm Tryz.func313 (by kernel_rfl) (by kernel_rfl) sNY.ok (by kernel_rfl) (fun _=>[]) fun a hp=>by
 have h:S9 a.1 a.2:=by
  rw [<-Pn];(conv=>zeta);simp only [aA];obtain⟨q,y⟩:=a
  try dsimp only at hp
  simp [-List.getD_eq_getElem?_getD];obtain⟨h1,h2,h3⟩:=Hy hp;obtain⟨h4,h5,h6⟩:=mR h1;simp only [etaN,vf];refine⟨⟨h4,h5⟩,fun e=>⟨⟨h4,h2⟩,by rw [if_pos e]⟩,fun e=>⟨⟨h2,h4⟩,fun c=> ?_,fun c=>⟨⟨h2,h5⟩,fun d=> ?_,fun d=>⟨h6,fun f=>⟨fun g=> ?_,fun g=> ?_⟩,fun f=>⟨h3,fun g=> ?_,fun g=>⟨fun k=> ?_,fun k=> ?_⟩⟩⟩⟩⟩⟩
  all_goals rw [if_neg (by rw [e];decide)]
  . rw [if_pos c]
  . rw [if_neg (by omega),if_pos d]
  . rw [if_neg (by omega),if_neg (by omega),if_pos f,if_pos g]
  . rw [if_neg (by omega),if_neg (by omega),if_pos f,if_neg g]
  . rw [if_neg (by omega),if_neg (by omega),if_neg f,if_pos g]
  . rw [if_neg (by omega),if_neg (by omega),if_neg f,if_neg g,if_pos k]
  . rw [if_neg (by omega),if_neg (by omega),if_neg f,if_neg g,if_neg k]
 exact h
theorem k263 :aH Tryz.prog Vy:=av k313 hm Tryz.func263 (by kernel_rfl) (by kernel_rfl) sN.ok (by kernel_rfl) (fun _=>[]) fun a hp=>by
 have h:Sq a:=by
  rw [<-Lx];(conv=>zeta);simp only [aA];generalize a=q at*
  try dsimp only at hp
  simp [-List.getD_eq_getElem?_getD];obtain⟨h1,h2,h3⟩:=zJ hp;obtain⟨h4,h5,h6⟩:=mR h1;simp only [etaN];have hs:=BS q;refine⟨⟨h4,h5⟩,fun e=> ?_,fun e=>⟨⟨h4,h5⟩,?_,fun c=> ?_,fun c=> ?_⟩⟩
  . rw [if_pos e]at hs;rw [hs];exact⟨⟨rfl,fun j hj=>⟨J9,rfl,fun _ _=>rfl⟩⟩,J9,⟨rfl,fun _ _=>rfl⟩,rfl,J9,⟨rfl,fun _ _=>rfl⟩,rfl⟩
  . unfold eJ;exact⟨h1,h2,h3⟩
  . rw [if_neg (by rw [e];decide),if_pos c]at hs;rw [hs];exact⟨⟨rfl,fun j hj=>⟨J9,rfl,fun _ _=>rfl⟩⟩,J9,⟨rfl,fun _ _=>rfl⟩,rfl,J9,⟨rfl,fun _ _=>rfl⟩,rfl⟩
  . rw [if_neg (by rw [e];decide),if_neg (by omega)]at hs;rw [hs];exact⟨⟨rfl,fun j hj=>⟨J9,rfl,fun _ _=>rfl⟩⟩,J9,⟨rfl,fun _ _=>rfl⟩,rfl,J9,⟨rfl,fun _ _=>rfl⟩,rfl⟩
 exact h
theorem k262 :aH Tryz.prog Uf:=av k263 hm Tryz.func262 (by kernel_rfl) (by kernel_rfl) sNN.ok (by kernel_rfl) (fun _=>[]) fun a hp=>by
 have h:SC a.1 a.2:=by
  rw [<-OA];(conv=>zeta);simp only [aA];obtain⟨q,r⟩:=a
  try dsimp only at hp
  simp [-List.getD_eq_getElem?_getD];unfold il at hp;obtain⟨h1,h2,h3,h4,h5,h6,h7,h8,h9⟩:=hp;obtain⟨q4,q5,q6⟩:=mR h1;obtain⟨r4,r5,r6⟩:=mR h2;simp only [etaN,h3,h4];refine⟨⟨q4,q5⟩,(fun e=>by cases e),fun _=>⟨⟨r4,r5⟩,(fun e=>by cases e),fun _=>⟨⟨r4,q4⟩,fun c=>by omega,fun c=>⟨⟨r5,q5⟩,fun d=>⟨⟨q4,r5⟩,fun g=>by omega⟩,fun d=>by omega⟩⟩⟩⟩
 exact h
theorem k211 :aH Tryz.prog T211:=av k262 hm Tryz.func211 (by kernel_rfl) (by kernel_rfl) sNN.ok (by kernel_rfl) (fun a=>ZM a.1 a.2) fun a hp=>by
 have h:TX a.1 a.2:=by
  rw [<-Mg];(conv=>zeta);simp only [aA];obtain⟨q,r⟩:=a
  try dsimp only at hp
  simp [-List.getD_eq_getElem?_getD];have hp':=hp;unfold il at hp;obtain⟨h1,h2,h3,h4,h5,h6,h7,h8,h9⟩:=hp;obtain⟨q4,q5,q6⟩:=mR h1;obtain⟨r4,r5,r6⟩:=mR h2;exact⟨⟨q5,r4⟩,by omega,fun _=>⟨⟨r5,q4⟩,fun _=>⟨hp',⟨q5,r4⟩,h6,fun _=>⟨⟨r5,q4⟩,h5⟩⟩⟩⟩
 exact h
end Go.Proofs.Big
