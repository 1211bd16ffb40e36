import Derived.Test.YtpjiopgakifhaaaGreatRA
import Derived.Test.YtpjiopgakifhaaaGreatRJ
import Derived.Test.YtpjiopgakifhaaaGreatRQ
set_option linter.unusedSectionVars false
set_option linter.unusedSimpArgs false
set_option linter.unusedVariables false
set_option maxRecDepth 100000
namespace Go.Proofs.Big
open Go Go.Sx Go.Proofs Tryz
variable [bW]
attribute [local irreducible] lm nv tl dg dz
abbrev ao:=Ω×(Int×Int)×(Int×Int)
def ei:Ou ao where
 n:=7
 enc a:=fm.enc a.1++(cR.enc a.2.1++cR.enc a.2.2)
 dec l:=match l with|[p,x,y,z,u,v,w]=>oB (fm.dec [p]) λa=>oB (cR.dec [x,y,z]) λb=>oB (cR.dec [u,v,w]) λc=>some (a,b,c)|_=>none
 qW:=([],(0,0),(0,0))
 ak l:=match l with|[p,x,y,z,u,v,w]=>fm.ak [p]/\cR.ak [x,y,z]/\cR.ak [u,v,w]|_=>True
 ok l a h hg:=by
  split at h
  case h_2=>cases h
  obtain⟨a1,h1,h⟩:=gQ h;obtain⟨a2,h2,h⟩:=gQ h;obtain⟨a3,h3,h⟩:=gQ h;cases h;obtain⟨g1,g2,g3⟩:=hg;have k1:=fm.ok _ _ h1 g1;have k2:=cR.ok _ _ h2 g2;have k3:=cR.ok _ _ h3 g3;exact⟨k1.1,k2.1,k2.2.1,k2.2.2.1,k3.1,k3.2.1,k3.2.2.1,trivial⟩
 self a:=by
  have h1:fm.dec (fm.enc a.1)=some a.1:=fm.self a.1;have h2:cR.dec (cR.enc a.2.1)=some a.2.1:=cR.self a.2.1;have h3:cR.dec (cR.enc a.2.2)=some a.2.2:=cR.self a.2.2;show oB (fm.dec (fm.enc a.1)) (λp=>oB (cR.dec (cR.enc a.2.1)) λb=>oB (cR.dec (cR.enc a.2.2)) λc=>some (p,b,c))=some a
  rw[h1,h2,h3];rfl
 kW a:=⟨fm.kW a.1,cR.kW a.2.1,cR.kW a.2.2⟩
 len _:=rfl
 Aa c x y a b h k:=by
  split at h
  case h_2=>cases h
  split at k
  case h_2=>cases k
  obtain⟨a1,h1,h⟩:=gQ h;obtain⟨a2,h2,h⟩:=gQ h;obtain⟨a3,h3,h⟩:=gQ h;obtain⟨b1,k1,k⟩:=gQ k;obtain⟨b2,k2,k⟩:=gQ k;obtain⟨b3,k3,k⟩:=gQ k;cases h;cases k;have e1:=fm.Aa c _ _ _ _ h1 k1;have e2:=cR.Aa c _ _ _ _ h2 k2;have e3:=cR.Aa c _ _ _ _ h3 k3;simp only[af]at e1 e2 e3⊢;simp only[e1,e2,e3,oB];cases c<;>rfl
@[simp] theorem codN_n:ei.n=7:=rfl
@[simp] theorem codN_dft:ei.qW=([],(0,0),(0,0)):=rfl
def yy(y:Int×Int):Int×Int:=(zz y.1,y.2)
def yc(y:Int×Int):List SV:=[SV.bool (decide (y.1<(0:Int))),SV.bF ((0:Nat)+(1:Nat)) (dz y.1).length λi=>(aF IntKind.u32).enc ((dz y.1).getD i (0:Int)),SV.int .i64 y.2]
def C5(l:List Ω):List Ω:=ah fm l.length λi=>fm.enc (l.getD i ([]:Ω))
abbrev MA:Arg ao:=argA ei
abbrev nS(a:ao):SV:=MA.enc a
def frN(l:List ao):SV:=.Gl 300 7 l.length λi=>ei.enc (l.getD i ([],(0,0),(0,0)))
def sN:=iR.one MA
def sIII:=iR.cons (DN .i64) (iR.cons (DN .i64) sI)
def sS:=iR.cons Rm (iR.cons AB (iR.cons AB sIII))
def bJ:Nat->List Ω->Int×Int->Int×Int->Int->Int->List ao
 |0,l,b,c,f,t=>if f-t=0 then []else [(l.getD 0 [],b,c)]
 |k+1,l,b,c,f,t=>if f-t=0 then []else if f-t=1 then [(l.getD 0 [],b,c)]else bJ k l b (dj b c) f (qb l (dj b c))++bJ k l (dj b c) c (qb l (dj b c)) t
def CA:Nat->List Ω->Int×Int->Int×Int->Int->Int->Prop
 |0,l,b,c,f,t=>0<l.length/\(0<=f/\f<=1000/\0<=t/\t<=1000)/\(f-t=0\/f-t=1)
 |k+1,l,b,c,f,t=>0<l.length/\(0<=f/\f<=1000/\0<=t/\t<=1000)/\(f-t=0\/f-t=1\/(dp b/\dp c/\(dj b c).2<=1073741824/\jO l (dj b c)/\CA k l b (dj b c) f (qb l (dj b c))/\CA k l (dj b c) c (qb l (dj b c)) t/\(bJ k l b (dj b c) f (qb l (dj b c))).length+(bJ k l (dj b c) c (qb l (dj b c)) t).length<=1000))
attribute [irreducible] bJ CA
def c404(k:Nat):bB:=ow sS.dec (λa=>CA k a.1 a.2.1 a.2.2.1 a.2.2.2.1 a.2.2.2.2.1/\a.2.2.2.2.2=1073741824) (λa=>.df [frN (bJ k a.1 a.2.1 a.2.2.1 a.2.2.2.1 a.2.2.2.2.1),.bool true])
def Hm(k:Nat):List (Nat×bB):=(404,c404 k)::Wh
def M0(l:List Ω)(b:Int×Int)(c:Int×Int)(f:Int)(t:Int)(m:Int):Prop:=fQ Wh f404 [] [qS l,yS b,yS c,iS f,iS t,iS m] (.df [frN (bJ 0 l b c f t),.bool true])
def TI(k:Nat)(l:List Ω)(b:Int×Int)(c:Int×Int)(f:Int)(t:Int)(m:Int):Prop:=fQ (Hm k) f404 [] [qS l,yS b,yS c,iS f,iS t,iS m] (.df [frN (bJ (k+1) l b c f t),.bool true])
def Tv:=iR.cons Pp (iR.cons AB (iR.cons AB sI))
def bR(p:Ω)(b c:Int×Int):List ao:=if(bC p).length<2 then []else bJ 3000 (bC p) b c (qb (bC p) b) (qb (bC p) c)
def je(p:Ω)(b c:Int×Int)(m:Int):Prop:=m6 p/\m=1073741824/\((bC p).length<2\/(jO (bC p) b/\jO (bC p) c/\CA 3000 (bC p) b c (qb (bC p) b) (qb (bC p) c)))
def MU:List (Nat×bB):=Hm 3000
attribute [irreducible] bR je
def c388:bB:=ow Tv.dec (λa=>je a.1 a.2.1 a.2.2.1 a.2.2.2) (λa=>.df [frN (bR a.1 a.2.1 a.2.2.1),.bool true])
def Vi:List (Nat×bB):=(388,c388)::MU
def SA(p:Ω)(b:Int×Int)(c:Int×Int)(m:Int):Prop:=fQ MU f388 [] [pS p,yS b,yS c,iS m] (.df [frN (bR p b c),.bool true])
theorem RU(l:List Ω)(z:Int×Int)(A:Int×Int)(f:Int)(t:Int)(m:Int):(
 let p:=λ(x y:Int)=>W (x-y)==0
 let c:=λ(x:List Ω)(y m:Int×Int)(t B:Int)=>(bJ 0 x y m t B).length
 let d:=true=true
 let q:=λ(x y:Int)=>W (x-y)==1
 let e:=λ(x:List Ω)=>x.getD 0 []
 let r:=((0:Int),(0:Int))
 let g:=λ(x:List Ω)(y m:Int×Int)(t B:Int)(C:Nat)=>(bJ 0 x y m t B).getD C ([],r,r)
 let o:=λ(x:List Ω)(y m:Int×Int)(t B:Int)(C E:Nat)=>(g x y m t B C).fst.getD E 0
 let s:=λ(x:List Ω)(y:Nat)=>(dz ((e x).getD y 0)).length
 let u:=λ(x:Int×Int)=>decide (x.fst<0)
 let h:=λ(x:List Ω)(y m:Int×Int)(t B:Int)(C:Nat)=>(g x y m t B C).snd.fst
 let j:=λ(x:Int×Int)=>(dz x.fst).length
 let k:=λ(x:List Ω)(y m:Int×Int)(t B:Int)(C:Nat)=>(g x y m t B C).snd.snd
 let v:=λ(x:Int×Int)=>cR.ak (yc x)
 let w:=λ(x y:Int×Int)(m:Int)=>decide ((dj (yy x) (yy y)).snd>m)
 ab (3:Nat) ((p f t=true->ab (2:Nat) ((c l z A f t=(0:Nat)/\d/\True)/\True))/\(p f t=false->True/\(q f t=true->((0:Int)<=(0:Int)/\
  (0:Int)< ↑l.length)/\ru true/\True/\((sm (0:Nat)/\(1:Nat)=c l z A f t/\c l z A f t<=(1:Nat))/\(∀i,i<c l z A f t->d/\((e l).length
  =(g l z A f t i).fst.length/\∀(b:Nat),b<(e l).length->decide ((e l).getD b (0:Int)<(0:Int))=decide (o l z A f t i b<(0:Int))/\(s
  l b=(dz (o l z A f t i b)).length/\∀(D:Nat),D<s l b->(dz ((e l).getD b (0:Int))).getD D (0:Int)=(dz (o l z A f t i b)).getD D
  (0:Int)/\True)/\True)/\u z=decide ((h l z A f t i).fst<(0:Int))/\(j z=(dz (h l z A f t i).fst).length/\∀(b:Nat),b<j z->(dz z.fst).getD
  b (0:Int)=(dz (h l z A f t i).fst).getD b (0:Int)/\True)/\z.snd=(h l z A f t i).snd/\u A=decide ((k l z A f t i).fst<(0:Int))/\(j A
  =(dz (k l z A f t i).fst).length/\∀(b:Nat),b<j A->(dz A.fst).getD b (0:Int)=(dz (k l z A f t i).fst).getD b (0:Int)/\True)/\A.snd
  =(k l z A f t i).snd/\True)/\d/\True)/\True)/\(q f t=false->ab (2:Nat) (((v z/\v A)/\dp (yy z)/\dp (yy A))/\ab (2:Nat) ((w z A m=true
  ->ab (2:Nat) ((c l z A f t=(0:Nat)/\true=false/\True)/\True))/\(w z A m=false->ab (2:Nat) ((((∀i,i<l.length->d/\∀(b:Nat),
  b<(l.getD i []).length->d/\aj.ak (aj.enc ((l.getD i []).getD b (0:Int))))/\cR.ak (yc (dj (yy z) (yy A))))/\jO (C5 l) (yy (dj (yy
  z) (yy A))))/\True/\False))))))))=M0 l z A f t m:=by kernel_rfl
theorem Nf(k:Nat)(l:List Ω)(b:Int×Int)(X:Int×Int)(f:Int)(t:Int)(m:Int):(
 let J:=λ(m t:Int)=>W (m-t)==0
 let g:=λ(m:Nat)(t:List Ω)(x1 y1:Int×Int)(u1 v1:Int)=>(bJ (m+1) t x1 y1 u1 v1).length
 let p:=true=true
 let E:=p/\True
 let K:=λ(m t:Int)=>W (m-t)==1
 let F:=sm 0
 let s:=λ(m:List Ω)=>m.getD 0 []
 let L:=((0:Int),(0:Int))
 let u:=(([],L,L):Ω×(Int×Int)×Int×Int)
 let q:=λ(m t:Nat)(x1:List Ω)(y1 u1:Int×Int)(v1 w1:Int)=>((bJ (m+1) x1 y1 u1 v1 w1).getD t u).fst
 let M:=λ(m:List Ω)(t:Nat)=>(dz ((s m).getD t 0)).length
 let N:=λ(m:Int×Int)=>decide (m.fst<0)
 let c:=λ(m t:Nat)(x1:List Ω)(y1 u1:Int×Int)(v1 w1:Int)=>((bJ (m+1) x1 y1 u1 v1 w1).getD t u).snd
 let O:=λ(m t:Nat)(x1:List Ω)(y1 u1:Int×Int)(v1 w1:Int)=>decide ((c m t x1 y1 u1 v1 w1).fst.fst<0)
 let w:=λ(m:Int×Int)=>(dz m.fst).length
 let P:=λ(m t x1:Nat)(y1:List Ω)(u1 v1:Int×Int)(w1 m1:Int)=>(dz (c m t y1 u1 v1 w1 m1).fst.fst).getD x1 0
 let Q:=λ(m t:Nat)(x1:List Ω)(y1 u1:Int×Int)(v1 w1:Int)=>decide ((c m t x1 y1 u1 v1 w1).snd.fst<0)
 let R:=λ(m t x1:Nat)(y1:List Ω)(u1 v1:Int×Int)(w1 m1:Int)=>(dz (c m t y1 u1 v1 w1 m1).snd.fst).getD x1 0
 let x:=λ(m:Int×Int)=>cR.ak (yc m)
 let T:=λ(m t:Int×Int)(x1:Int)=>decide ((dj (yy m) (yy t)).snd>x1)
 let c0:=λ(m:Nat)(t:List Ω)(x1 y1:Int×Int)(u1 v1:Int)=>ab 2 ((g m t x1 y1 u1 v1=0/\true=false/\True)/\True)
 let v:=aj
 let G:=λ(m:List Ω)=>∀i,i<m.length->p/\∀(Z:Nat),Z<(m.getD i []).length->p/\v.ak (v.enc ((m.getD i []).getD Z 0))
 let H:=λ(m t:Int×Int)=>cR.ak (yc (dj (yy m) (yy t)))
 let e:=λ(m t:Int×Int)=>yy (dj (yy m) (yy t))
 let c1:=ab 2 True
 let o:=λ(m:List Ω)(t x1:Int×Int)=>qb (C5 m) (e t x1)
 let y:=λ(m:Nat)(t:List Ω)(x1 y1:Int×Int)(u1:Int)=>(bJ m (C5 t) (e x1 y1) (yy y1) (o t x1 y1) u1).length
 let z:=λ(m:Nat)(t:List Ω)(x1 y1:Int×Int)(u1:Int)=>(bJ m (C5 t) (yy x1) (e x1 y1) u1 (o t x1 y1)).length
 let A:=λ(m:Nat)(t:List Ω)(x1 y1:Int×Int)(u1 v1:Int)=>z m t x1 y1 u1+y m t x1 y1 v1
 let d:=λ(m t:Nat)(x1:List Ω)(y1 u1:Int×Int)(v1:Int)=>decide (m<z t x1 y1 u1 v1)
 let c2:=λ(m t:Nat)(x1:List Ω)(y1 u1:Int×Int)(v1:Int)=>((bJ m (C5 x1) (yy y1) (e y1 u1) v1 (o x1 y1 u1)).getD t u).fst
 let B:=λ(m t:Nat)(x1:List Ω)(y1 u1:Int×Int)(v1 w1:Int)=>(bJ m (C5 x1) (e y1 u1) (yy u1) (o x1 y1 u1) v1).getD (0+(t-z m x1
  y1 u1 w1)) u
 let c3:=λ(m t:Nat)(x1:List Ω)(y1 u1:Int×Int)(v1 w1:Int)=>if d m t x1 y1 u1 v1=true then(c2 t m x1 y1 u1 v1).length else(B t m x1
  y1 u1 w1 v1).fst.length
 let h:=λ(m t:Nat)(x1:List Ω)(y1 u1:Int×Int)(v1:Int)=>((bJ m (C5 x1) (yy y1) (e y1 u1) v1 (o x1 y1 u1)).getD t u).snd
 let C:=λ(m t:Nat)(x1:List Ω)(y1 u1:Int×Int)(v1 w1:Int)=>(B m t x1 y1 u1 v1 w1).snd.fst
 let c4:=λ(m t:Nat)(x1:List Ω)(y1 u1:Int×Int)(v1 w1:Int)=>if d m t x1 y1 u1 v1=true then(dz (h t m x1 y1 u1 v1).fst.fst).length else
  (dz (C t m x1 y1 u1 w1 v1).fst).length
 let r:=aF IntKind.u32
 let D:=λ(m t:Nat)(x1:List Ω)(y1 u1:Int×Int)(v1 w1:Int)=>(B m t x1 y1 u1 v1 w1).snd.snd
 let c5:=λ(m t:Nat)(x1:List Ω)(y1 u1:Int×Int)(v1 w1:Int)=>if d m t x1 y1 u1 v1=true then(dz (h t m x1 y1 u1 v1).snd.fst).length else
  (dz (D t m x1 y1 u1 w1 v1).fst).length
 ab (3:Nat) ((J f t=true->ab (2:Nat) ((g k l b X f t=(0:Nat)/\E)/\True))/\(J f t=false->True/\(K f t=true->((0:Int)<=(0:Int)/\(0:
  Int)< ↑l.length)/\ru true/\True/\((F/\(1:Nat)=g k l b X f t/\g k l b X f t<=(1:Nat))/\(∀i,i<g k l b X f t->p/\((s l).length=
  (q k i l b X f t).length/\∀(Z:Nat),Z<(s l).length->decide ((s l).getD Z (0:Int)<(0:Int))=decide ((q k i l b X f t).getD Z (0:Int)<
  (0:Int))/\(M l Z=(dz ((q k i l b X f t).getD Z (0:Int))).length/\∀(ac:Nat),ac<M l Z->(dz ((s l).getD Z (0:Int))).getD ac (0:Int)
  =(dz ((q k i l b X f t).getD Z (0:Int))).getD ac (0:Int)/\True)/\True)/\N b=O k i l b X f t/\(w b=(dz (c k i l b X f t).fst.fst).length/\
  ∀(Z:Nat),Z<w b->(dz b.fst).getD Z (0:Int)=P k i Z l b X f t/\True)/\b.snd=(c k i l b X f t).fst.snd/\N X=Q k i l b X f t/\(w
  X=(dz (c k i l b X f t).snd.fst).length/\∀(Z:Nat),Z<w X->(dz X.fst).getD Z (0:Int)=R k i Z l b X f t/\True)/\X.snd=(c k i l b
  X f t).snd.snd/\True)/\E)/\True)/\(K f t=false->ab (2:Nat) (((x b/\x X)/\dp (yy b)/\dp (yy X))/\ab (2:Nat) ((T b X m=true->c0 k l b
  X f t)/\(T b X m=false->ab (2:Nat) (((G l/\H b X)/\jO (C5 l) (e b X))/\ab (7:Nat) (((G l/\x b/\H b X/\c1)/\CA k (C5 l) (yy b)
  (e b X) f (o l b X)/\m=(1073741824:Int))/\ab (2:Nat) ((false=true->c0 k l b X f t)/\(false=false->ab (6:Nat) (((G l/\H b X/\x X/\c1)
  /\CA k (C5 l) (e b X) (yy X) (o l b X) t/\m=(1073741824:Int))/\True/\(0:Nat)+y k l b X t<=y k l b X t/\(∀(j:Nat),j<y k l b X t->
  p)/\(F/\sm (z k l b X f)/\A k l b X f t<=(140737488355328:Nat)/\A k l b X f t*(104:Nat)<=(140737488355328:Nat))/\ab (2:Nat) (((F/\A k l
  b X f t=g k l b X f t/\g k l b X f t<=A k l b X f t)/\(∀i,i<g k l b X f t->p/\(c3 i k l b X f t=(q k i l b X f t).length/\∀(Z
  :Nat),Z<c3 i k l b X f t->bK (if d i k l b X f=true then v.enc ((c2 k i l b X f).getD Z (0:Int))else v.enc ((B k i l b X t f).fst.getD Z
  (0:Int))) (v.enc ((q k i l b X f t).getD Z (0:Int))))/\(if d i k l b X f=true then decide ((h k i l b X f).fst.fst<(0:Int))else decide ((C k
  i l b X t f).fst<(0:Int)))=O k i l b X f t/\(c4 i k l b X f t=(dz (c k i l b X f t).fst.fst).length/\∀(Z:Nat),Z<c4 i k l b X f t->
  bK (if d i k l b X f=true then r.enc ((dz (h k i l b X f).fst.fst).getD Z (0:Int))else r.enc ((dz (C k i l b X t f).fst).getD Z (0:Int))) (r.enc
  (P k i Z l b X f t)))/\(if d i k l b X f=true then(h k i l b X f).fst.snd else(C k i l b X t f).snd)=(c k i l b X f t).fst.snd/\(if d i k l b
  X f=true then decide ((h k i l b X f).snd.fst<(0:Int))else decide ((D k i l b X t f).fst<(0:Int)))=Q k i l b X f t/\(c5 i k l b X f t=(dz
  (c k i l b X f t).snd.fst).length/\∀(Z:Nat),Z<c5 i k l b X f t->bK (if d i k l b X f=true then r.enc ((dz (h k i l b X f).snd.fst).getD Z
  (0:Int))else r.enc ((dz (D k i l b X t f).fst).getD Z (0:Int))) (r.enc (R k i Z l b X f t)))/\(if d i k l b X f=true then(h k i l b X f).snd.snd
  else(D k i l b X t f).snd)=(c k i l b X f t).snd.snd/\True)/\E)/\True)))))))))))))=TI k l b X f t m:=by kernel_rfl
theorem M4(p:Ω)(b:Int×Int)(D:Int×Int)(m:Int):(
 let c:=true=true
 let e:=aj
 let x:=λ(m:Ω)=>(bC (eR m)).length
 let y:=λ(m:Ω)=>decide (↑(x m)<(2:Int))
 let f:=λ(m:Ω)(F G:Int×Int)=>(bR m F G).length
 let z:=λ(m:Ω)(F:Nat)=>(bC (eR m)).getD F []
 let A:=λ(m:Ω)=>∀i,i<x m->c/\∀(E:Nat),E<(z m i).length->c/\e.ak (e.enc ((z m i).getD E 0))
 let u:=λ(m:Int×Int)=>cR.ak (yc m)
 let g:=λ(m:Ω)=>C5 (bC (eR m))
 let B:=λ(m:Ω)(F:Int×Int)=>(A m/\u F)/\jO (g m) (yy F)
 let h:=λ(m:Ω)(F:Int×Int)=>qb (g m) (yy F)
 let j:=λ(m:Ω)(F G:Int×Int)=>bJ 3000 (g m) (yy F) (yy G) (h m F) (h m G)
 let C:=((0:Int),(0:Int))
 let k:=(([],C,C):Ω×(Int×Int)×Int×Int)
 let d:=λ(m:Ω)(F G:Int×Int)(H:Nat)=>((j m F G).getD H k).fst
 let o:=λ(m:Ω)(F G:Int×Int)(H:Nat)=>((bR m F G).getD H k).fst
 let q:=λ(m:Ω)(F G:Int×Int)(H:Nat)=>((j m F G).getD H k).snd
 let r:=λ(m:Ω)(F G:Int×Int)(H:Nat)=>(q m F G H).fst.fst
 let s:=λ(m:Ω)(F G:Int×Int)(H:Nat)=>((bR m F G).getD H k).snd
 let v:=λ(m:Ω)(F G:Int×Int)(H:Nat)=>(s m F G H).fst.fst
 let t:=λ(m:Ω)(F G:Int×Int)(H:Nat)=>(q m F G H).snd.fst
 let w:=λ(m:Ω)(F G:Int×Int)(H:Nat)=>(s m F G H).snd.fst
 ab 2 (((∀i,i<p.length->c/\e.ak (e.enc (p.getD i 0)))/\m6 (eR p))/\ab 2 ((y p=true->ab 2 ((f p b D=0/\c/\True)/\True))/\(y p
  =false->ab 2 (B p b/\ab 2 (B p D/\ab 6 (((A p/\u b/\u D/\ab 2 True)/\CA 3000 (g p) (yy b) (yy D) (h p b) (h p D)/\m=1073741824)/\ru true
  /\True/\((sm 0/\(j p b D).length=f p b D/\f p b D<=(j p b D).length)/\(∀i,i<f p b D->c/\((d p b D i).length=(o p b D i).length
  /\∀(E:Nat),E<(d p b D i).length->decide ((d p b D i).getD E 0<0)=decide ((o p b D i).getD E 0<0)/\((dz ((d p b D i).getD E 0)).length
  =(dz ((o p b D i).getD E 0)).length/\∀(J:Nat),J<(dz ((d p b D i).getD E 0)).length->(dz ((d p b D i).getD E 0)).getD J 0=(dz ((o p b
  D i).getD E 0)).getD J 0/\True)/\True)/\decide (r p b D i<0)=decide (v p b D i<0)/\((dz (r p b D i)).length=(dz (v p b D i)).length/\∀
  (E:Nat),E<(dz (r p b D i)).length->(dz (r p b D i)).getD E 0=(dz (v p b D i)).getD E 0/\True)/\(q p b D i).fst.snd=(s p b D i).fst.snd
  /\decide (t p b D i<0)=decide (w p b D i<0)/\((dz (t p b D i)).length=(dz (w p b D i)).length/\∀(E:Nat),E<(dz (t p b D i)).length->
  (dz (t p b D i)).getD E 0=(dz (w p b D i)).getD E 0/\True)/\(q p b D i).snd.snd=(s p b D i).snd.snd/\True)/\c/\True)/\True)))))))=SA p b D m:=by kernel_rfl
@[simp] theorem yy_eq(y:Int×Int):yy y=y:=by unfold yy;simp
@[simp] theorem yc_good(y:Int×Int):cR.ak (yc y):=cR.kW y
@[simp] theorem rwQ_eq(l:List Ω):C5 l=l:=iJ (C:=fm) rfl
theorem zA(l:List Ω)(b c:Int×Int)(f t:Int):bJ 0 l b c f t=if f-t=0 then []else [(l.getD 0 [],b,c)]:=by unfold bJ;rfl
theorem jF(k:Nat)(l:List Ω)(b c:Int×Int)(f t:Int):bJ (k+1) l b c f t=if f-t=0 then []else if f-t=1 then [(l.getD 0 [],b,c)]else bJ k l b (dj b c) f (qb l (dj b c))++bJ k l (dj b c) c (qb l (dj b c)) t:=by rw[bJ]
theorem Tj{l:List Ω}{b c:Int×Int}{f t:Int}:CA 0 l b c f t↔0<l.length/\(0<=f/\f<=1000/\0<=t/\t<=1000)/\(f-t=0\/f-t=1):=by unfold CA;exact J9
theorem BQ{k:Nat}{l:List Ω}{b c:Int×Int}{f t:Int}:CA (k+1) l b c f t↔0<l.length/\(0<=f/\f<=1000/\0<=t/\t<=1000)/\(f-t=0\/f-t=1\/(dp b/\dp c/\(dj b c).2<=1073741824/\jO l (dj b c)/\CA k l b (dj b c) f (qb l (dj b c))/\CA k l (dj b c) c (qb l (dj b c)) t/\(bJ k l b (dj b c) f (qb l (dj b c))).length+(bJ k l (dj b c) c (qb l (dj b c)) t).length<=1000)):=by
 conv=>lhs;unfold CA
theorem xP{α:Type}(l m:List α)(i:Nat)(d:α):(l++m).getD i d=if i<l.length then l.getD i d else m.getD (i-l.length) d:=by
 simp only[J0];split
 . rename_i h;rw[Ka h]
 . rename_i h;rw[Jy (by omega)]
theorem GP(z:Int):bK (aj.enc z) (aj.enc z):=aj.ok _ _ (aj.self _) (aj.kW _)
theorem Zl:aH prog (Hm 0):=av k259 hm func404 (by kernel_rfl) (by kernel_rfl) sS.ok (by kernel_rfl) (λ_=>[]) λa b=>by
 have h:M0 a.1 a.2.1 a.2.2.1 a.2.2.2.1 a.2.2.2.2.1 a.2.2.2.2.2:=by
  rw[<-RU];(conv=>zeta);simp only[aA];obtain⟨l,o,c,f,t,m⟩:=a
  try dsimp only at b
  simp[-List.getD_eq_getElem?_getD];obtain⟨d,p,q⟩:=Tj.1 b.1;rw[aO (n:=f-t) (by omega) (by omega),zA];refine⟨λh=>JB h,λh=>⟨λk=>?_,λk=>by omega⟩⟩;rw[JA h];refine⟨d,⟨rfl,by simp⟩,λi c=>?_⟩;have e:i=0:=by simpa using c
  subst e;exact⟨⟨rfl,λj r=>⟨J9,rfl,λ_ _=>rfl⟩⟩,J9,⟨rfl,λ_ _=>rfl⟩,rfl,J9,⟨rfl,λ_ _=>rfl⟩,rfl⟩
 exact h
theorem aae{k:Nat}(q:aH prog (Hm k)):aH prog (Hm (k+1)):=by
 have u:aH prog ((404,c404 (k+1))::Hm k):=av q hm func404 (by kernel_rfl) (by kernel_rfl) sS.ok (by kernel_rfl) (λ_=>[]) λa p=>by
  have h:TI k a.1 a.2.1 a.2.2.1 a.2.2.2.1 a.2.2.2.2.1 a.2.2.2.2.2:=by
   rw[<-Nf];(conv=>zeta);simp only[aA];obtain⟨l,c,b,f,t,m⟩:=a
   try dsimp only at p
   simp[-List.getD_eq_getElem?_getD];obtain⟨w,E,d⟩:=BQ.1 p.1;have hm:=p.2;rw[aO (n:=f-t) (by omega) (by omega),jF];refine⟨λh=>JB h,λh=>⟨λo=>?_,λo=>?_⟩⟩
   . rw[JA h,JB o];refine⟨w,⟨rfl,by simp⟩,λi b=>?_⟩;have e:i=0:=by simpa using b
     subst e;exact⟨⟨rfl,λj F=>⟨J9,rfl,λ_ _=>rfl⟩⟩,J9,⟨rfl,λ_ _=>rfl⟩,rfl,J9,⟨rfl,λ_ _=>rfl⟩,rfl⟩
   . rw[JA h,JA o];rcases d with d|d|⟨x,y,G,z,C,D,H⟩
     . exact absurd d h
     . exact absurd d o
     . refine⟨⟨x,y⟩,by omega,λ_=>⟨z,⟨C,hm⟩,⟨D,hm⟩,?_⟩⟩;generalize bJ k l c (dj c b) f (qb l (dj c b))=A at*
       generalize bJ k l (dj c b) b (qb l (dj c b)) t=B at*
       refine⟨⟨by omega,by omega⟩,⟨by simp,by simp⟩,λi b=>?_⟩;rw[xP]
       by_cases r:i<A.length
       . simp only[r,JE];generalize A.getD i ([],(0,0),(0,0))=v;exact⟨⟨trivial,λj _=>GP _⟩,trivial,⟨trivial,λj _=>⟨rfl,trivial⟩⟩,trivial,trivial,⟨trivial,λj _=>⟨rfl,trivial⟩⟩,trivial⟩
       . simp only[r,JF];generalize B.getD (i-A.length) ([],(0,0),(0,0))=v;exact⟨⟨trivial,λj _=>GP _⟩,trivial,⟨trivial,λj _=>⟨rfl,trivial⟩⟩,trivial,trivial,⟨trivial,λj _=>⟨rfl,trivial⟩⟩,trivial⟩
  exact h
 exact⟨u.1,q.2⟩
theorem Zw:∀k,aH prog (Hm k)
 |0=>Zl
 |k+1=>aae (Zw k)
theorem kT404:aH prog MU:=Zw 3000
theorem z8(p:Ω)(b c:Int×Int):bR p b c=if(bC p).length<2 then []else bJ 3000 (bC p) b c (qb (bC p) b) (qb (bC p) c):=by unfold bR;rfl
theorem k388:aH prog Vi:=av kT404 hm func388 (by kernel_rfl) (by kernel_rfl) Tv.ok (by kernel_rfl) (λ_=>[]) λa b=>by
 have h:SA a.1 a.2.1 a.2.2.1 a.2.2.2:=by
  rw[<-M4];(conv=>zeta);simp only[aA];obtain⟨p,u,c,m⟩:=a
  try dsimp only at b
  simp[-List.getD_eq_getElem?_getD];unfold je at b;obtain⟨d,e,k⟩:=b;rw[z8];refine⟨d,λh=>JB (by omega),λh=>?_⟩;rw[JA (by omega)];obtain⟨o,q,r⟩:=k.resolve_left (by omega);refine⟨o,q,⟨r,e⟩,⟨rfl,J1 _⟩,λi c=>⟨⟨rfl,λj w=>⟨J9,rfl,λ_ _=>rfl⟩⟩,J9,⟨rfl,λ_ _=>rfl⟩,rfl,J9,⟨rfl,λ_ _=>rfl⟩,rfl⟩⟩
 exact h
def sNY:=iR.cons MA (iR.one AB)
def sNN:=iR.cons MA (iR.one MA)
def Ac(a:ao):Bool:=decide (aW (dd a.2.1 a.2.2)=0)
def gn(a:ao)(y:Int×Int):Int:=
 if Ac a then aW (dd a.2.1 y)else if aW (dd y a.2.1)<=0 then 1 else if 0<aW (dd y a.2.2)then-1 else
 if aW (dd y a.2.2)=0 then(if aW (cY a.1 a.2.2)=0 then 0 else-1)else
 if aW (cY a.1 y)=0 then 0 else if aW (cY a.1 y)=aW (cY a.1 a.2.2)then-1 else 1
def ai(a:ao):ao:=if Ac a then a else if gn a (dj a.2.1 a.2.2)<=0 then(a.1,a.2.1,dj a.2.1 a.2.2)else(a.1,dj a.2.1 a.2.2,a.2.2)
def ql(a:ao):Prop:=dp a.2.1/\dp a.2.2/\bM a.1 a.2.2
def eJ(a:ao)(y:Int×Int):Prop:=ql a/\dp y/\bM a.1 y
def dA(a:ao):Prop:=ql a/\dp (dj a.2.1 a.2.2)/\bM a.1 (dj a.2.1 a.2.2)
def il(a b:ao):Prop:=ql a/\ql b/\Ac a=false/\Ac b=false/\aW (dd b.2.2 a.2.1)<=0/\0<aW (dd a.2.2 b.2.1)/\aW (dd b.2.1 a.2.1)<=0/\aW (dd b.2.2 a.2.2)<0/\0<=aW (dd a.2.1 b.2.2)
attribute [irreducible] Ac gn ai ql eJ dA il
def c286:bB:=ow sN.dec (λa=>dp a.2.1/\dp a.2.2) (λa=>.bool (Ac a))
def VR:List (Nat×bB):=(286,c286)::Vi
def Sv(q:ao):Prop:=fQ Vi f286 [] [nS q] (.bool (Ac q))
def c313:bB:=ow sNY.dec (λa=>eJ a.1 a.2) (λa=>iS (gn a.1 a.2))
def W5:List (Nat×bB):=(313,c313)::VR
def S9(q:ao)(y:Int×Int):Prop:=fQ VR f313 [] [nS q,yS y] (iS (gn q y))
def c263:bB:=ow sN.dec (λa=>dA a) (λa=>nS (ai a))
def Vy:List (Nat×bB):=(263,c263)::W5
def Sq(q:ao):Prop:=fQ W5 f263 [] [nS q] (nS (ai q))
def c262:bB:=ow sNN.dec (λa=>il a.1 a.2) (λa=>.bool false)
def Uf:List (Nat×bB):=(262,c262)::Vy
def SC(q:ao)(r:ao):Prop:=fQ Vy f262 [] [nS q,nS r] (.bool false)
def c211:bB:=ow sNN.dec (λa=>il a.1 a.2) (λa=>iS 1)
def T211:List (Nat×bB):=(211,c211)::Uf
def ZM(q:ao)(r:ao):List kM:=[⟨.unit,.list [.cod ei 0 0,.cod ei 1 0],λ_ (x:ao×ao)=>x.1=q/\x.2=r,λ_ (x:ao×ao)=>0⟩]
def TX(q:ao)(r:ao):Prop:=fQ Uf f211 (ZM q r) [nS q,nS r] (iS 1)
theorem Ly(q:ao):(
 let e:=λ(x:ao)=>x.snd
 let c:=λ(x:ao)=>(e x).fst
 let d:=λ(x:ao)=>(e x).snd
 ab 3 (((cR.ak (yc (c q))/\cR.ak (yc (d q)))/\dp (yy (c q))/\dp (yy (d q)))/\ab 2 ((aW (dd (yy (c q)) (yy (d q)))==0)=Ac q/\True)))=Sv q:=by kernel_rfl
theorem Pn(q:ao)(y:Int×Int):(
 let g:=λ(y:ao)=>y.fst
 let h:=λ(y:ao)=>∀i,i<(g y).length->true=true/\aj.ak (aj.enc ((g y).getD i 0))
 let r:=λ(y:ao)=>y.snd
 let e:=λ(y:ao)=>(r y).fst
 let j:=λ(y:ao)=>cR.ak (yc (e y))
 let c:=λ(y:ao)=>(r y).snd
 let k:=λ(y:ao)=>cR.ak (yc (c y))
 let o:=λ(y:ao)=>dp (yy (e y))
 let d:=λ(y:ao)=>eR (g y)
 let s:=λ(y:ao)=>Ac (d y,yy (e y),zz (c y).fst,(c y).snd)
 let f:=λ(y:Int×Int)=>cR.ak (yc y)
 let t:=λ(y:Int×Int)(m:ao)=>decide (aW (dd (yy y) (yy (e m)))<=0)
 let u:=λ(y:ao)(m:Int×Int)=>ab 2 (1=gn y m/\True)
 let v:=λ(y:Int×Int)(m:ao)=>decide (aW (dd (yy y) (yy (c m)))>0)
 let p:=λ(y:ao)(m:Int×Int)=>ab 2 (-1=gn y m/\True)
 let w:=λ(y:Int×Int)(m:ao)=>aW (dd (yy y) (yy (c m)))==0
 let x:=λ(y:ao)=>aW (cY (d y) (yy (c y)))
 let z:=λ(y:ao)=>x y==0
 let A:=λ(y:ao)(m:Int×Int)=>ab 2 (0=gn y m/\True)
 let B:=λ(y:ao)(m:Int×Int)=>aW (cY (d y) (yy m))==0
 let C:=λ(y:ao)(m:Int×Int)=>aW (cY (d y) (yy m))==x y
 ab 2 (((h q/\j q/\k q)/\o q/\dp (yy (c q)))/\True/\(s q=true->ab 2 (((j q/\f y)/\o q/\dp (yy y))/\ab 2 (aW (dd (yy (e q)) (yy y))=gn q
  y/\True)))/\(s q=false->ab 2 (((f y/\j q)/\dp (yy y)/\o q)/\True/\(t y q=true->u q y)/\(t y q=false->ab 2 (((f y/\k q)/\dp (yy y)/\dp (yy
  (c q)))/\ab 2 ((v y q=true->p q y)/\(v y q=false->ab 2 (((h q/\k q)/\bM (d q) (yy (c q)))/\ab 2 ((w y q=true->True/\(z q=true->A q y)/\
  (z q=false->p q y))/\(w y q=false->ab 2 (((h q/\f y)/\bM (d q) (yy y))/\ab 2 ((B q y=true->A q y)/\(B q y=false->True/\(C q y=true->p
  q y)/\(C q y=false->u q y)))))))))))))))=S9 q y:=by kernel_rfl
theorem Lx(q:ao):(
 let f:=λ(m:ao)=>m.fst
 let g:=λ(m:ao)(b:Nat)=>(f m).getD b 0
 let t:=λ(m:ao)=>m.snd
 let c:=λ(m:ao)=>(t m).fst
 let e:=λ(m:ao)=>(t m).snd
 let u:=λ(m:ao)=>cR.ak (yc (c m))/\cR.ak (yc (e m))
 let v:=λ(m:ao)=>(∀i,i<(f m).length->true=true/\aj.ak (aj.enc (g m i)))/\u m
 let w:=λ(m:ao)=>dp (yy (c m))/\dp (yy (e m))
 let h:=λ(m:ao)=>(e m).fst
 let o:=λ(m:ao)=>(eR (f m),yy (c m),zz (h m),(e m).snd)
 let p:=λ(m:ao)=>(ai m).fst
 let s:=λ(m:ao)=>(f m).length=(p m).length/\∀i,i<(f m).length->decide (g m i<0)=decide ((p m).getD i 0<0)/\((dz (g m i)).length=
  (dz ((p m).getD i 0)).length/\∀(N:Nat),N<(dz (g m i)).length->(dz (g m i)).getD N 0=(dz ((p m).getD i 0)).getD N 0/\True)/\True
 let x:=λ(m:ao)=>(ai m).snd
 let j:=λ(m:ao)=>(x m).fst
 let y:=λ(m:ao)=>decide ((j m).fst<0)
 let z:=λ(m:ao)=>decide ((c m).fst<0)=y m
 let A:=λ(m:ao)=>(dz (c m).fst).length
 let B:=λ(m:ao)=>(dz (j m).fst).length
 let C:=λ(m:ao)(b:Nat)=>(dz (j m).fst).getD b 0
 let D:=λ(m:ao)=>A m=B m/\∀i,i<A m->(dz (c m).fst).getD i 0=C m i/\True
 let E:=λ(m:ao)=>(c m).snd=(j m).snd
 let k:=λ(m:ao)=>(x m).snd
 let F:=λ(m:ao)=>decide ((k m).fst<0)
 let G:=λ(m:ao)=>(dz (k m).fst).length
 let H:=λ(m:ao)(b:Nat)=>(dz (k m).fst).getD b 0
 let J:=λ(m:ao)=>decide (h m<0)=F m/\((dz (h m)).length=G m/\∀i,i<(dz (h m)).length->(dz (h m)).getD i 0=H m i/\True)/\(e m).snd
  =(k m).snd/\True
 let d:=λ(m:ao)=>dj (yy (c m)) (yy (e m))
 let K:=λ(m:ao)=>decide (gn (o m) (yy (d m))<=0)
 let L:=λ(m:ao)=>decide ((d m).fst<0)
 let r:=λ(m:ao)=>(dz (d m).fst).length
 let M:=λ(m:ao)(b:Nat)=>(dz (d m).fst).getD b 0
 ab 2 ((v q/\w q)/\True/\(Ac (o q)=true->ab 2 ((s q/\z q/\D q/\E q/\J q)/\True))/\(Ac (o q)=false->ab 2 ((u q/\w q)/\ab 3 (((v q/\cR.ak
  (yc (d q)))/\eJ (o q) (yy (d q)))/\True/\(K q=true->ab 3 ((s q/\z q/\D q/\E q/\L q=F q/\(r q=G q/\∀i,i<r q->M q i=H q i/\True)
  /\(d q).snd=(k q).snd/\True)/\True))/\(K q=false->ab 3 ((s q/\L q=y q/\(r q=B q/\∀i,i<r q->M q i=C q i/\True)/\(d q).snd=(j q).snd
  /\J q)/\True)))))))=Sq q:=by kernel_rfl
theorem OA(q:ao)(r:ao):(
 let w:=λ(m:ao)=>m.fst
 let x:=λ(m:ao)=>∀i,i<(w m).length->true=true/\aj.ak (aj.enc ((w m).getD i 0))
 let y:=λ(m:ao)=>m.snd
 let z:=λ(m:ao)=>(y m).fst
 let d:=λ(m:ao)=>cR.ak (yc (z m))
 let p:=λ(m:ao)=>(y m).snd
 let e:=λ(m:ao)=>cR.ak (yc (p m))
 let A:=λ(m:ao)=>x m/\d m/\e m
 let c:=λ(m:ao)=>yy (z m)
 let f:=λ(m:ao)=>dp (c m)
 let g:=λ(m:ao)=>yy (p m)
 let h:=λ(m:ao)=>dp (g m)
 let B:=λ(m:ao)=>A m/\f m/\h m
 let j:=λ(m:ao)=>eR (w m)
 let k:=λ(m:ao)=>(j m,c m,zz (p m).fst,(p m).snd)
 let C:=λ(m r:ao)=>Ac (k m)=true->ab 2 (((A r/\d m)/\eJ (k r) (c m))/\ab 2 ((gn (k r) (c m)==0)=false/\True))
 let D:=λ(m r:ao)=>decide (aW (dd (c m) (c r))>0)
 let E:=λ(m r:ao)=>(e m/\e r)/\h m/\h r
 let s:=λ(m r:ao)=>decide (aW (dd (g m) (g r))<0)
 let F:=λ(m:ao)=>(d m/\e m)/\f m/\h m
 let t:=λ(m:ao)=>decide (aW (dd (c m) (g m))>=0)
 let o:=ab 2 (false=false/\True)
 let G:=λ(m r:ao)=>decide (↑(eU (j m) (j r)).length>(1:Int))
 let u:=λ(m r:ao)=>ab 2 (((x m/\x r)/\vR (j m) (j r))/\True/\(G m r=true->False)/\(G m r=false->o))
 let H:=λ(m r:ao)=>(d m/\e r)/\f m/\h r
 let v:=λ(m r:ao)=>decide (aW (dd (c m) (g r))>=0)
 ab 2 (B q/\True/\C q r/\(Ac (k q)=false->True/\B r/\True/\C r q/\(Ac (k r)=false->ru true/\ab 2 (((d r/\d q)/\f r/\f q)/\True/\(D r q=true
  ->ab 3 (E r q/\True/\(s r q=true->ab 3 (F r/\True/\(t r=true->o)/\(t r=false->u q r)))/\(s r q=false->ab 2 (H r q/\True/\(v r q=true->o)
  /\(v r q=false->u q r)))))/\(D r q=false->ab 2 (E r q/\True/\(s r q=true->ab 3 (H q r/\True/\(v q r=true->o)/\(v q r=false->u q r)))/\(s
  r q=false->ab 2 (F q/\True/\(t q=true->o)/\(t q=false->u q r))))))))))=SC q r:=by kernel_rfl
theorem Mg(q:ao)(r:ao):(
 let E:=λ(m:ao)=>m.snd
 let o:=λ(m:ao)=>(E m).snd
 let F:=λ(m:ao)=>cR.ak (yc (o m))
 let e:=λ(m:ao)=>(E m).fst
 let G:=λ(m:ao)=>cR.ak (yc (e m))
 let t:=λ(m r:ao)=>(F m/\G r)/\dp (yy (o m))/\dp (yy (e r))
 let u:=λ(m r:ao)=>decide (aW (dd (yy (o m)) (yy (e r)))<0)
 let H:=ab 2 (-1=1/\True)
 let J:=ab (2:Nat) (sm (1:Int)/\True)
 let h:=λ(m:ao)=>m.fst
 let v:=λ(m:ao)=>(h m).length
 let p:=λ(m:ao)(r:Nat)=>(h m).getD r 0
 let y:=λ(m:ao)=>(∀i,i<v m->true=true/\aj.ak (aj.enc (p m i)))/\G m/\F m
 let c:=λ(m:ao)=>(o m).fst
 let z:=λ(m:ao)=>(o m).snd
 let j:=λ(m:ao)=>(eR (h m),yy (e m),zz (c m),z m)
 let K:=ab 36 True
 let Z:=λ(m:ao)=>λi=>aj.enc (p m i)
 let f:=λ(m:ao)=>(e m).fst
 let A:=λ(m:ao)=>(dz (f m)).length
 let c1:=λ(m:ao)(r:Nat)=>(aF IntKind.u32).enc ((dz (f m)).getD r 0)
 let B:=λ(m:ao)=>(dz (c m)).length
 let c2:=λ(m:ao)(r:Nat)=>(aF IntKind.u32).enc ((dz (c m)).getD r 0)
 let L:=λ(m:ao)=>List.map ar.shape [ar.s (SV.bF 2 (v m) (Z m)),ar.s (SV.bool (decide (f m<0))),ar.s (SV.bF 1 (A m) λi=>c1 m i),ar.s (SV.int
  IntKind.i64 (e m).snd),ar.s (SV.bool (decide (c m<0))),ar.s (SV.bF 1 (B m) λi=>c2 m i),ar.s (SV.int .i64 (z m))]
 let w:=λ(m:ao)=>L m=L m
 let M:=λ(m:ao)=>(v m=(eR (h m)).length/\∀i,i<v m->decide (p m i<0)=decide ((eR (h m)).getD i 0<0)/\((dz (p m i)).length=(dz
  ((eR (h m)).getD i 0)).length/\∀(X:Nat),X<(dz (p m i)).length->(dz (p m i)).getD X 0=(dz ((eR (h m)).getD i 0)).getD X 0/\True)/\True)/\decide
  (f m<0)=decide (zz (f m)<0)/\(A m=(dz (zz (f m))).length/\∀i,i<A m->(dz (f m)).getD i 0=(dz (zz (f m))).getD i 0/\True)/\sm (e m).snd
  /\decide (c m<0)=decide (zz (c m)<0)/\(B m=(dz (zz (c m))).length/\∀i,i<B m->(dz (c m)).getD i 0=(dz (zz (c m))).getD i 0/\True)/\sm (z
  m)/\True
 let x:=λ(m r:ao)=>decide (aW (dd (yy (o m)) (yy (e r)))<=0)
 let N:=λ(m:ao)=>y m/\dA (j m)
 let d:=λ(m:ao)=>(ai (j m)).fst
 let O:=λ(m:ao)=>(ai (j m)).snd
 let C:=λ(m:ao)=>(O m).fst
 let D:=λ(m:ao)=>(O m).snd
 let g:=λ(m:ao)=>(D m).fst
 let P:=λ(m r:ao)=>(eR (d m),yy (C m),zz (g m),(D m).snd)=r
 let Q:=λ(m:ao)(r:Nat)=>(dz ((d m).getD r 0)).length
 let R:=λ(m:ao)(r:Nat)=>dz ((eR (d m)).getD r 0)
 let k:=λ(m:ao)=>(C m).fst
 let T:=λ(m:ao)=>((d m).length=(eR (d m)).length/\∀i,i<(d m).length->decide ((d m).getD i 0<0)=decide ((eR (d m)).getD i 0<0)/\
  (Q m i=(R m i).length/\∀(X:Nat),X<Q m i->(dz ((d m).getD i 0)).getD X 0=(R m i).getD X 0/\True)/\True)/\decide (k m<0)=decide (zz (k m)
  <0)/\((dz (k m)).length=(dz (zz (k m))).length/\∀i,i<(dz (k m)).length->(dz (k m)).getD i 0=(dz (zz (k m))).getD i 0/\True)/\sm (C m).snd/\
  decide (g m<0)=decide (zz (g m)<0)/\((dz (g m)).length=(dz (zz (g m))).length/\∀i,i<(dz (g m)).length->(dz (g m)).getD i 0=(dz (zz (g m))).getD
  i 0/\True)/\sm (D m).snd/\True
 ab (3:Nat) (t q r/\True/\(u q r=true->H)/\(u q r=false->ab (2:Nat) (t r q/\True/\(u r q=true->J)/\(u r q=false->ab (2:Nat) (((y q/\y
  r)/\il (j q) (j r))/\True/\(false=true->ab (2:Nat) ((0:Int)=(1:Int)/\True))/\(false=false->((j q=q/\j r=r)/\K/\w q/\M q/\w r/\M
  r/\True)/\∀(a b:ao),a=q/\b=r->ab (2:Nat) (t a b/\True/\(x a b=true->H)/\(x a b=false->ab (2:Nat) (t b a/\True/\(x b a
  =true->J)/\(x b a=false->True/\N a/\True/\N b/\ru true/\(P a q/\P b r)/\(0:Nat)<(0:Nat)/\K/\w q/\T a/\w r/\T b/\True)))))))))))=TX q r:=by kernel_rfl
theorem mR{q:ao}(h:ql q):dp q.2.1/\dp q.2.2/\bM q.1 q.2.2:=by unfold ql at h;exact h
theorem Hy{q:ao}{y:Int×Int}(h:eJ q y):ql q/\dp y/\bM q.1 y:=by unfold eJ at h;exact h
theorem zJ{q:ao}(h:dA q):ql q/\dp (dj q.2.1 q.2.2)/\bM q.1 (dj q.2.1 q.2.2):=by unfold dA at h;exact h
theorem etaN(q:ao):(q.1,q.2.1,q.2.2.1,q.2.2.2)=q:=rfl
theorem Iz(a:ao):Ac a=decide (aW (dd a.2.1 a.2.2)=0):=by unfold Ac;rfl
theorem vf(a:ao)(y:Int×Int):gn a y=
 if Ac a then aW (dd a.2.1 y)else if aW (dd y a.2.1)<=0 then 1 else if 0<aW (dd y a.2.2)then-1 else
 if aW (dd y a.2.2)=0 then(if aW (cY a.1 a.2.2)=0 then 0 else-1)else
 if aW (cY a.1 y)=0 then 0 else if aW (cY a.1 y)=aW (cY a.1 a.2.2)then-1 else 1:=by unfold gn;rfl
theorem BS(a:ao):ai a=if Ac a then a else if gn a (dj a.2.1 a.2.2)<=0 then(a.1,a.2.1,dj a.2.1 a.2.2)else(a.1,dj a.2.1 a.2.2,a.2.2):=by unfold ai;rfl
theorem k286:aH prog VR:=av k388 hm func286 (by kernel_rfl) (by kernel_rfl) sN.ok (by kernel_rfl) (λ_=>[]) λa b=>by
 have h:Sv a:=by
  rw[<-Ly];(conv=>zeta);simp only[aA];generalize a=q at*
  try dsimp only at b
  simp[-List.getD_eq_getElem?_getD];exact⟨b,by rw[Iz];rfl⟩
 exact h
theorem k313:aH prog W5:=av k286 hm func313 (by kernel_rfl) (by kernel_rfl) sNY.ok (by kernel_rfl) (λ_=>[]) λa j=>by
 have h:S9 a.1 a.2:=by
  rw[<-Pn];(conv=>zeta);simp only[aA];obtain⟨q,y⟩:=a
  try dsimp only at j
  simp[-List.getD_eq_getElem?_getD];obtain⟨o,b,p⟩:=Hy j;obtain⟨i,m,r⟩:=mR o;simp only[etaN,vf];refine⟨⟨i,m⟩,λe=>⟨⟨i,b⟩,by rw[JB e]⟩,λe=>⟨⟨b,i⟩,λc=>?_,λc=>⟨⟨b,m⟩,λd=>?_,λd=>⟨r,λf=>⟨λg=>?_,λg=>?_⟩,λf=>⟨p,λg=>?_,λg=>⟨λk=>?_,λk=>?_⟩⟩⟩⟩⟩⟩
  all_goals rw[JA (by rw[e];decide)]
  . rw[JB c]
  . rw[JA (by omega),JB d]
  . rw[JA (by omega),JA (by omega),JB f,JB g]
  . rw[JA (by omega),JA (by omega),JB f,JA g]
  . rw[JA (by omega),JA (by omega),JA f,JB g]
  . rw[JA (by omega),JA (by omega),JA f,JA g,JB k]
  . rw[JA (by omega),JA (by omega),JA f,JA g,JA k]
 exact h
theorem k263:aH prog Vy:=av k313 hm func263 (by kernel_rfl) (by kernel_rfl) sN.ok (by kernel_rfl) (λ_=>[]) λa d=>by
 have h:Sq a:=by
  rw[<-Lx];(conv=>zeta);simp only[aA];generalize a=q at*
  try dsimp only at d
  simp[-List.getD_eq_getElem?_getD];obtain⟨i,p,r⟩:=zJ d;obtain⟨k,m,u⟩:=mR i;simp only[etaN];have b:=BS q;refine⟨⟨k,m⟩,λe=>?_,λe=>⟨⟨k,m⟩,?_,λc=>?_,λc=>?_⟩⟩
  . rw[JB e]at b;rw[b];exact⟨⟨rfl,λj o=>⟨J9,rfl,λ_ _=>rfl⟩⟩,J9,⟨rfl,λ_ _=>rfl⟩,rfl,J9,⟨rfl,λ_ _=>rfl⟩,rfl⟩
  . unfold eJ;exact⟨i,p,r⟩
  . rw[JA (by rw[e];decide),JB c]at b;rw[b];exact⟨⟨rfl,λj o=>⟨J9,rfl,λ_ _=>rfl⟩⟩,J9,⟨rfl,λ_ _=>rfl⟩,rfl,J9,⟨rfl,λ_ _=>rfl⟩,rfl⟩
  . rw[JA (by rw[e];decide),JA (by omega)]at b;rw[b];exact⟨⟨rfl,λj o=>⟨J9,rfl,λ_ _=>rfl⟩⟩,J9,⟨rfl,λ_ _=>rfl⟩,rfl,J9,⟨rfl,λ_ _=>rfl⟩,rfl⟩
 exact h
theorem k262:aH prog Uf:=av k263 hm func262 (by kernel_rfl) (by kernel_rfl) sNN.ok (by kernel_rfl) (λ_=>[]) λa b=>by
 have h:SC a.1 a.2:=by
  rw[<-OA];(conv=>zeta);simp only[aA];obtain⟨q,r⟩:=a
  try dsimp only at b
  simp[-List.getD_eq_getElem?_getD];unfold il at b;obtain⟨o,p,u,w,x,y,z,A,B⟩:=b;obtain⟨i,k,C⟩:=mR o;obtain⟨m,j,D⟩:=mR p;simp only[etaN,u,w];refine⟨⟨i,k⟩,(λe=>by cases e),λ_=>⟨⟨m,j⟩,(λe=>by cases e),λ_=>⟨⟨m,i⟩,λc=>by omega,λc=>⟨⟨j,k⟩,λd=>⟨⟨i,j⟩,λg=>by omega⟩,λd=>by omega⟩⟩⟩⟩
 exact h
theorem k211:aH prog T211:=av k262 hm func211 (by kernel_rfl) (by kernel_rfl) sNN.ok (by kernel_rfl) (λa=>ZM a.1 a.2) λa b=>by
 have h:TX a.1 a.2:=by
  rw[<-Mg];(conv=>zeta);simp only[aA];obtain⟨q,r⟩:=a
  try dsimp only at b
  simp[-List.getD_eq_getElem?_getD];have c:=b;unfold il at b;obtain⟨k,m,u,w,o,p,x,y,z⟩:=b;obtain⟨d,e,A⟩:=mR k;obtain⟨i,j,B⟩:=mR m;exact⟨⟨e,i⟩,by omega,λ_=>⟨⟨j,d⟩,λ_=>⟨c,⟨e,i⟩,p,λ_=>⟨⟨j,d⟩,o⟩⟩⟩⟩
 exact h
end Go.Proofs.Big
