import Derived.Test.YtpjiopgakifhaaaGreatRA
import Derived.Test.YtpjiopgakifhaaaGreatRJ
import Derived.Test.YtpjiopgakifhaaaGreatRR
set_option linter.unusedSectionVars false
set_option linter.unusedSimpArgs false
set_option linter.unusedVariables false
set_option maxRecDepth 100000
namespace Go.Proofs.Big
open Go Go.Sx Go.Proofs Tryz
variable [bW]
set_option maxHeartbeats 4000000
attribute [local irreducible] lm nv tl dg dz
def y0:Int×Int:=(0,0)
def y1:Int×Int:=(1,0)
def d0:ao:=([],(0,0),(0,0))
section
variable {α : Type} (D : α -> Bool) (S : α -> α) (G : α -> Prop)
def xp:Nat->α->α
 |0,a=>a
 |k+1,a=>if D a then a else xp k (S a)
def QK:Nat->α->Nat
 |0,_=>0
 |k+1,a=>if D a then 0 else 1+QK k (S a)
def po:Nat->α->Prop
 |0,_=>False
 |k+1,a=>G a/\(D a=true\/po k (S a))
variable {D S G}
theorem wP:∀{k m:Nat}{a:α},po D S G k a->k<=m->xp D S m a=xp D S k a/\QK D S m a=QK D S k a
 |0,_,_,h,_=>h.elim
 |k+1,0,_,_,h=>by omega
 |k+1,m+1,a,h,i=>by
  simp only[xp,QK];cases c:D a with
  |true=>exact⟨rfl,rfl⟩
  |false=>
   obtain⟨_,b⟩:=h;rw[c]at b;obtain⟨d,e⟩:=wP (b.resolve_left (by simp)) (show k<=m by omega);simp only[Jr,JF];exact⟨d,by rw[e]⟩
theorem IA{k m:Nat}{a:α}(h:po D S G k a)(o:k<=m)(c:D a=false):(∃j,j<k/\po D S G j (S a))/\xp D S m (S a)=xp D S m a/\QK D S m (S a)<QK D S m a:=by
 cases k with
 |zero=>exact h.elim
 |succ j=>
  cases m with
  |zero=>omega
  |succ n=>
   obtain⟨_,b⟩:=h;rw[c]at b;have b:=b.resolve_left (by simp);obtain⟨d,p⟩:=wP b (show j<=n by omega);obtain⟨e,i⟩:=wP b (show j<=n+1 by omega);refine⟨⟨j,by omega,b⟩,?_,?_⟩
   . rw[e];simp only[xp,c,Jr,JF];exact d.symm
   . rw[i];simp only[QK,c,Jr,JF];omega
theorem Ic{m:Nat}{a:α}(b:D a=true):xp D S m a=a:=by
 cases m with
 |zero=>rfl
 |succ n=>simp[xp,b]
theorem zd{k:Nat}{a:α}(h:po D S G k a):G a:=by
 cases k with
 |zero=>exact h.elim
 |succ k=>exact h.1
end
def rwN(l:List ao):List ao:=ah ei l.length λi=>ei.enc (l.getD i d0)
def nn(a:ao):ao:=(eR a.1,yy a.2.1,zz a.2.2.1,a.2.2.2)
def nc(a:ao):List SV:=[SV.bF ((0:Nat)+(1:Nat)+(1:Nat)) a.1.length λi=>aj.enc (a.1.getD i (0:Int)),SV.bool (decide (a.2.1.1<(0:Int))),SV.bF ((0:Nat)+(1:Nat)) (dz a.2.1.1).length λi=>(aF IntKind.u32).enc ((dz a.2.1.1).getD i (0:Int)),SV.int .i64 a.2.1.2,SV.bool (decide (a.2.2.1<(0:Int))),SV.bF ((0:Nat)+(1:Nat)) (dz a.2.2.1).length λi=>(aF IntKind.u32).enc ((dz a.2.2.1).getD i (0:Int)),SV.int .i64 a.2.2.2]
def jR(s:ao×ao):Bool:=decide (aW (dd s.1.2.2 s.2.2.1)<0)
def ke(s:ao×ao):ao×ao:=(ai s.1,ai s.2)
def zK(s:ao×ao):Prop:=dA s.1/\dA s.2
def xF(a:ao):Bool:=decide (aW (dd a.2.2 y1)<0)
def vc(s:ao×ao):ao×ao:=xp jR ke 3000 s
def pH(a:ao):ao:=xp xF ai 3000 a
def dG(p:Ω):List ao:=bR p y0 y1
def kV(a:ao):Bool:=decide (gn a y1<0)
def qK(p:Ω):List ao:=(dG p).filter kV
def yK(l:List ao):List ao:=if l.length=2 then [(vc (l.getD 0 d0,l.getD 1 d0)).1,(vc (l.getD 0 d0,l.getD 1 d0)).2]else l
def pj(i:Nat)(l:List ao):List ao:=if i=0 then yK l else l
def oD(l:List ao):Nat->List ao
 |0=>l
 |k+1=>(pj k (oD l k)).set k (pH ((pj k (oD l k)).getD k d0))
def aC(p:Ω):List ao:=oD (qK p) (qK p).length
def C1(a:ao):Prop:=po xF ai dA 3000 a
def Lo(l:List ao):Prop:=l.length<=2/\(l.length=2->il (l.getD 1 d0) (l.getD 0 d0)/\po jR ke zK 3000 (l.getD 0 d0,l.getD 1 d0))/\∀i,i<l.length->C1 ((pj i (oD l i)).getD i d0)
def okB(p:Ω):Prop:=je p y0 y1 1073741824/\(dG p).length<=2/\(∀a∈dG p,eJ a y1)/\Lo (qK p)
def qJ(l:List Ω):Prop:=l.length=1/\okB (l.getD 0 [])
def ia(l:List Ω)(i:Int)(b:List ao):Prop:=(i=0/\b=[])\/(i=1/\b=qK (l.getD 0 []))
def dV(l:List Ω)(i j:Int)(b:List ao):Prop:=i=0/\0<=j/\j<=(dG (l.getD 0 [])).length/\b=((dG (l.getD 0 [])).take j.toNat).filter kV
def iz(c:List ao)(d:Int)(b:Bool):Prop:=d=c.length/\b=false
def gw(l:List Ω)(i:Int)(b:List ao):Prop:=0<=i/\i<=(qK (l.getD 0 [])).length/\b=oD (qK (l.getD 0 [])) i.toNat
def iO(i:Int)(b c:List ao):Prop:=(¬(i=0/\b.length=2)/\c=b)\/(i=0/\b.length=2/\c.length=2/\xp jR ke 3000 (c.getD 0 d0,c.getD 1 d0)=vc (b.getD 0 d0,b.getD 1 d0)/\∃k,k<=3000/\po jR ke zK k (c.getD 0 d0,c.getD 1 d0))
def cT(i:Int)(m b:List ao):Prop:=b=m.set i.toNat (b.getD i.toNat d0)/\xp xF ai 3000 (b.getD i.toNat d0)=pH (m.getD i.toNat d0)/\∃k,k<=3000/\po xF ai dA k (b.getD i.toNat d0)
def W7(l:List ao):Nat:=QK jR ke 3000 (l.getD 0 d0,l.getD 1 d0)
def mu5(i:Int)(l:List ao):Nat:=QK xF ai 3000 (l.getD i.toNat d0)
attribute [irreducible] jR ke zK xF vc pH dG kV qK yK pj oD aC C1 Lo okB qJ ia dV iz gw iO cT W7 mu5
def c354:bB:=ow iR.nil.dec (λa=>a=a) (λa=>yS y1)
def UR:List (Nat×bB):=(354,c354)::T211
def SF(u:Unit):Prop:=fQ T211 f354 [] [] (yS y1)
def c353:bB:=ow sQ.dec (λa=>qJ a) (λa=>(zN ei).enc (aC (a.getD 0 [])))
def Wi:List (Nat×bB):=(353,c353)::UR
def XI(l:List Ω):List kM:=[⟨.unit,.list [.int .i64 (.tm 16),.ah ei 0 300 [.tm 3]],λ_ (x:Int×List ao)=>ia l x.1 x.2,λ_ (x:Int×List ao)=>(1-x.1).toNat⟩,⟨.int .i64 (.tm 16),.list [.int .i64 (.tm 29),.ah ei 0 300 [.tm 3]],λ(i:Int)(x:Int×List ao)=>dV l i x.1 x.2,λ(i:Int)(x:Int×List ao)=>((dG (l.getD 0 [])).length-x.1).toNat⟩,⟨.ah ei 0 300 [.tm 3],.list [.int .i64 (.tm 10),.bool (.tm 11)],λ(y:List ao)(x:Int×Bool)=>iz y x.1 x.2,λ(y:List ao)(x:Int×Bool)=>0⟩,⟨.unit,.list [.int .i64 (.tm 74),.ah ei 0 300 [.tm 3]],λ_ (x:Int×List ao)=>gw l x.1 x.2,λ_ (x:Int×List ao)=>((qK (l.getD 0 [])).length-x.1).toNat⟩,⟨.list [.int .i64 (.tm 74),.ah ei 0 300 [.tm 3]],.ah ei 0 300 [.tm 3],λ(y:Int×List ao)(x:List ao)=>iO y.1 y.2 x,λ(y:Int×List ao)(x:List ao)=>W7 x⟩,⟨.list [.int .i64 (.tm 74),.ah ei 0 300 [.tm 3]],.ah ei 0 300 [.tm 3],λ(y:Int×List ao)(x:List ao)=>cT y.1 y.2 x,λ(y:Int×List ao)(x:List ao)=>mu5 y.1 x⟩]
def SU(l:List Ω):Prop:=fQ UR f353 (XI l) [qS l] ((zN ei).enc (aC (l.getD 0 [])))
theorem LH(u:Unit):(True/\True/\(True/\fN (1:Int))/\True/\True/\(false=decide (y1.fst<(0:Int))/\((1:Nat)=(dz y1.fst).length/\∀i,i<(1:Nat)->[(1
 :Int)].getD i (0:Int)=(dz y1.fst).getD i (0:Int)/\True)/\(0:Int)=y1.snd/\True)/\True)=SF u:=by kernel_rfl
theorem Mz(l:List Ω):(
 let p:=sm 0
 let d7:=λ(x:List Ω)=>x.length
 let o3:=λ(x:List Ω)(m:Nat)=>(x.getD m []).length
 let c4:=λ(x:List Ω)=>d7 x=d7 x/\∀i,i<d7 x->(sm (o3 x i)/\∀(b:Nat),b<o3 x i->pW ((x.getD i []).getD b 0))/\True
 let c5:=λ(x:List Ω)=>(↑(d7 x):Int)
 let c6:=λ(x:List Ω)=>c5 x=c5 x
 let h0:=sm (0:Int)
 let o4:=ab 116 True
 let w:=ei
 let h1:=w.n
 let h2:=h1=h1
 let d8:=True/\()=()
 let d9:=λ(x:List Ω)(m:Int)=>x.getD m.toNat []
 let t:=true=true
 let e:=aj
 let u:=cR
 let o5:=SV.int .i64 0
 let h3:=u.ak (yc y1)
 let o6:=((0:Int),(0:Int))
 let N:=yy y1
 let d:=λ(x:List ao)=>rwN x
 let c:=λ(x:List ao)=>x.length
 let o7:=λ(x:List ao)=>c x=(d x).length
 let J:=λ(x:List ao)=>p/\o7 x
 let e0:=λ(x:List Ω)(m:Int)=>bR (eR (d9 x m)) o6 N
 let c7:=λ(x:List Ω)(m:Int)=>(e0 x m).length
 let h4:=λ(x:List Ω)(m:Int)=>p/\sm (c7 x m)
 let c8:=λ(x:List Ω)(m:Int)=>(↑(c7 x m):Int)
 let h5:=λ(x:List Ω)(m:Int)=>c8 x m=c8 x m
 let h6:=ab 103 True
 let o8:=([]:List (Option (Nat×Nat)))
 let y:=o8=o8
 let o9:=λ(x:List ao)(m:Nat)=>(x.getD m d0).fst
 let O:=λ(x:List ao)(m:Nat)=>(o9 x m).length
 let e1:=λ(x:List ao)(m:Nat)=>((d x).getD m d0).fst
 let K:=λ(x:List ao)(m s:Nat)=>(o9 x m).getD s 0
 let p0:=λ(x:List ao)(m:Nat)=>(x.getD m d0).snd
 let e2:=λ(x:List ao)(m:Nat)=>(p0 x m).fst
 let e3:=λ(x:List ao)(m:Nat)=>decide ((e2 x m).fst<0)
 let p1:=λ(x:List ao)(m:Nat)=>((d x).getD m d0).snd
 let e4:=λ(x:List ao)(m:Nat)=>(p1 x m).fst
 let P:=λ(x:List ao)(m:Nat)=>(dz (e2 x m).fst).length
 let e5:=λ(x:List ao)(m s:Nat)=>(dz (e2 x m).fst).getD s 0
 let e6:=λ(x:List ao)(m:Nat)=>(e2 x m).snd
 let e7:=λ(x:List ao)(m:Nat)=>(p0 x m).snd
 let e8:=λ(x:List ao)(m:Nat)=>decide ((e7 x m).fst<0)
 let e9:=λ(x:List ao)(m:Nat)=>(p1 x m).snd
 let Q:=λ(x:List ao)(m:Nat)=>(dz (e7 x m).fst).length
 let f0:=λ(x:List ao)(m s:Nat)=>(dz (e7 x m).fst).getD s 0
 let f1:=λ(x:List ao)(m:Nat)=>(e7 x m).snd
 let p2:=λ(x:List ao)=>(o7 x/\h2/\∀i,i<c x->(O x i=(e1 x i).length/\∀(b:Nat),b<O x i->decide (K x i b<0)=decide ((e1
  x i).getD b 0<0)/\((dz (K x i b)).length=(dz ((e1 x i).getD b 0)).length/\∀(ay:Nat),ay<(dz (K x i b)).length->(dz (K x i b)).getD ay 0
  =(dz ((e1 x i).getD b 0)).getD ay 0/\True)/\True)/\e3 x i=decide ((e4 x i).fst<0)/\(P x i=(dz (e4 x i).fst).length/\∀(b:Nat),b<P x i->e5
  x i b=(dz (e4 x i).fst).getD b 0/\True)/\e6 x i=(e4 x i).snd/\e8 x i=decide ((e9 x i).fst<0)/\(Q x i=(dz (e9 x i).fst).length/\∀(b:Nat),
  b<Q x i->f0 x i b=(dz (e9 x i).fst).getD b 0/\True)/\f1 x i=(e9 x i).snd/\True)/\True
 let h7:=λ(x:List Ω)(m:Int)(s:Nat)=>((e0 x m).getD s d0).fst
 let f2:=λ(x:List Ω)(m:Int)(s:Nat)=>((e0 x m).getD s d0).snd
 let f3:=λ(x:List Ω)(m:Int)(s:Nat)=>(f2 x m s).fst.fst
 let f4:=λ(x:List Ω)(m:Int)(s:Nat)=>(f2 x m s).snd.fst
 let h8:=λ(x:List Ω)(m:Int)=>(sm (c7 x m)/\sm 7/\∀i,i<c7 x m->(sm (h7 x m i).length/\∀(b:Nat),b<(h7 x m i).length->
  pW ((h7 x m i).getD b 0))/\sm (decide (f3 x m i<0))/\(sm (dz (f3 x m i)).length/\∀(b:Nat),b<(dz (f3 x m i)).length->sm ((dz (f3 x m i)).getD b
  0)/\True)/\sm (f2 x m i).fst.snd/\sm (decide (f4 x m i<0))/\(sm (dz (f4 x m i)).length/\∀(b:Nat),b<(dz (f4 x m i)).length->sm ((dz (f4 x m i)).getD
  b 0)/\True)/\sm (f2 x m i).snd.snd/\True)/\True
 let p3:=λ(x:List ao)(m:List Ω)(s:Int)=>y/\p2 x/\y/\h8 m s/\True
 let B:=λ(x:Int)=>0+x.toNat
 let R:=λ(x:List Ω)(m s:Int)=>(e0 x m).getD (B s) d0
 let L:=λ(x:List Ω)(m s:Int)=>(R x m s).fst
 let p4:=λ(x:List Ω)(m s:Int)=>(R x m s).snd
 let C:=λ(x:List Ω)(m s:Int)=>(p4 x m s).fst
 let D:=λ(x:List Ω)(m s:Int)=>(p4 x m s).snd
 let p5:=λ(x:List Ω)(m s:Int)=>(∀i,i<(L x m s).length->t/\e.ak (e.enc ((L x m s).getD i 0)))/\u.ak (yc (C x m s))/\u.ak
  (yc (D x m s))
 let E:=ru true
 let p6:=λ(x:List Ω)(m s:Int)=>decide (gn (nn (R x m s)) N>=0)
 let g:=λ(x:Int)=>W (x+1)
 let c9:=λ(x:List Ω)=>x.getD 0 []
 let p7:=λ(x:List Ω)=>(↑(dG (c9 x)).length:Int)
 let p8:=λ(x:List Ω)(m:Int)=>(p7 x-g m).toNat<(p7 x-m).toNat
 let f5:=λ(x:Int)=>sm (g x)
 let p9:=λ(x:List Ω)(m s:Int)=>ab 10 (c4 x/\c6 x/\m=m/\ab 10 (h4 x m/\h5 x m/\f5 s/\h6))
 let h9:=λ(x:List Ω)(m s:Int)(Z:List ao)=>True/\dV x m (g s) (d Z)/\p8 x s/\ab 3 (J Z/\p9 x m s)/\p3 Z x m
 let h:=λ(x:List ao)=>(↑(c x):Int)
 let f6:=λ(x:List ao)=>p/\sm (c x)
 let d1:=λ(x:List ao)=>h x=h x
 let q0:=λ(x:List Ω)(m s:Int)=>ab 2 (c4 x/\c6 x/\m=m/\ab 10 (h4 x m/\h5 x m/\s=s/\h6))
 let T:=([]:List ar)
 let q1:=ar.s SV.aq::T
 let q2:=ar.s SV.ff::T++(q1++T)++(ar.s o5::T++T)
 let q3:=List.map ar.shape (q1++(q2++(q2++T)))
 let j0:=λ(x:List Ω)(m s:Int)=>(dz (C x m s).fst).length
 let j1:=λ(x:List Ω)(m s:Int)=>(dz (D x m s).fst).length
 let q4:=λ(x:List ao)(m:List Ω)(s Z:Int)=>y/\((sm (c x)/\h2/\∀i,i<c x->(sm (O x i)/\∀(b:Nat),b<O x i->pW (K
  x i b))/\sm (e3 x i)/\(sm (P x i)/\∀(b:Nat),b<P x i->sm (e5 x i b)/\True)/\sm (e6 x i)/\sm (e8 x i)/\(sm (Q x i)/\∀(b:Nat),b<Q x
  i->sm (f0 x i b)/\True)/\sm (f1 x i)/\True)/\True)/\y/\h8 m s/\q3=q3/\((sm (L m s Z).length/\∀i,i<(L m s Z).length->pW ((L m s Z).getD
  i 0))/\sm (decide ((C m s Z).fst<0))/\(sm (j0 m s Z)/\∀i,i<j0 m s Z->sm ((dz (C m s Z).fst).getD i 0)/\True)/\sm (C m s Z).snd/\sm (decide
  ((D m s Z).fst<0))/\(sm (j1 m s Z)/\∀i,i<j1 m s Z->sm ((dz (D m s Z).fst).getD i 0)/\True)/\sm (D m s Z).snd/\True)/\True
 let q5:=λ(x:Int)=>decide (x>0)
 let c0:=λ(x:Int)=>W (x-1)
 let j2:=λ(x:List ao)(m:Int)=>x.getD (0+(c0 m).toNat) d0
 let q6:=λ(x:List ao)(m:Int)=>(j2 x m).fst
 let q7:=λ(x:List ao)(m:Int)=>(j2 x m).snd
 let M:=λ(x:List ao)=>c x+1
 let k:=λ(x:Nat)(m:List ao)=>decide (x<c m)
 let f7:=λ(x:List ao)(m:Nat)=>w.enc (x.getD m d0)
 let j3:=λ(x:Nat)(m:List ao)=>0+(x-c m)
 let q:=λ(x:Nat)(m:List ao)=>decide (j3 x m<1)
 let j4:=λ(x:List ao)(m:Nat)=>x.getD (j3 m x-1) d0
 let f8:=λ(m:List ao)(s:List Ω)(Z v1:Int)=>ah w (M m) λj=>af (k j m) (f7 m j) ((λ(j:Nat)=>af (decide (j<1)) ((if
  1=1 then λx=>nc ((bR (eR (s.getD Z.toNat [])) (0,0) (yy y1)).getD (0+v1.toNat) d0)else λi'=>af (decide (i'=0)) (nc ((bR (eR (s.getD
  Z.toNat [])) (0,0) (yy y1)).getD (0+v1.toNat) d0)) ((λ(x:List SV)=>SV.aq::x) [SV.ff,SV.aq,SV.int .i64 0,SV.ff,SV.aq,SV.int .i64
  0])) j) (ei.enc (m.getD (j-1) d0))) (j3 j m))
 let j5:=7=h1
 let q8:=λ(x:List ao)(m:Nat)=>(j4 x m).fst
 let q9:=λ(x:Nat)(m:List ao)(s:List Ω)(Z y1:Int)=>if k x m=true then O m x else if q x m=true then(L s Z y1).length else(q8 m
  x).length
 let r0:=λ(x:List ao)(m:List Ω)(s Z:Int)(y1:Nat)=>((f8 x m s Z).getD y1 d0).fst
 let r1:=λ(x:List ao)(m:Nat)=>(j4 x m).snd
 let f9:=λ(x:List ao)(m:Nat)=>(r1 x m).fst
 let c1:=λ(x:List ao)(m:List Ω)(s Z:Int)(y1:Nat)=>((f8 x m s Z).getD y1 d0).snd
 let r2:=λ(x:Nat)(m:List ao)(s:List Ω)(Z y1:Int)=>if k x m=true then P m x else if q x m=true then j0 s Z y1 else(dz (f9 m x).fst).length
 let r3:=λ(x:List ao)(m:List Ω)(s Z:Int)(y1:Nat)=>dz (c1 x m s Z y1).fst.fst
 let f:=aF IntKind.u32
 let g0:=λ(x:List ao)(m:Nat)=>(r1 x m).snd
 let r4:=λ(x:Nat)(m:List ao)(s:List Ω)(Z y1:Int)=>if k x m=true then Q m x else if q x m=true then j1 s Z y1 else(dz (g0 m x).fst).length
 let r5:=λ(x:List ao)(m:List Ω)(s Z:Int)(y1:Nat)=>dz (c1 x m s Z y1).snd.fst
 let r6:=λ(x m s:Int)(Z:List ao)(y1:List Ω)=>(0<=x/\x<=h Z)/\x=h Z/\(∀(j:Nat),j<0->t)/\(p/\sm 1/\1<=140737488355328
  /\104<=140737488355328)/\1<=1/\(∀(j:Nat),j<1->t)/\(p/\x.toNat=c Z/\M Z<=140737488355328/\M Z*104<=140737488355328)/\E/\True/\dV y1
  m (g s) (ah w (M Z) λj=>af (k j Z) (f7 Z j) (af (q j Z) (nc (R y1 m s)) (w.enc (j4 Z j))))/\p8 y1 s/\ab 3 ((p/\M Z=(f8 Z y1 m s).length)
  /\p9 y1 m s)/\y/\((M Z=(f8 Z y1 m s).length/\j5/\∀i,i<M Z->(q9 i Z y1 m s=(r0 Z y1 m s i).length/\∀(b:Nat),b<q9 i Z y1 m s
  ->bK (if k i Z=true then e.enc (K Z i b)else if q i Z=true then e.enc ((L y1 m s).getD b 0)else e.enc ((q8 Z i).getD b 0)) (e.enc ((r0 Z y1 m
  s i).getD b 0)))/\(if k i Z=true then e3 Z i else if q i Z=true then decide ((C y1 m s).fst<0)else decide ((f9 Z i).fst<0))=decide ((c1 Z y1 m
  s i).fst.fst<0)/\(r2 i Z y1 m s=(r3 Z y1 m s i).length/\∀(b:Nat),b<r2 i Z y1 m s->bK (if k i Z=true then f.enc (e5 Z i b)else if q i
  Z=true then f.enc ((dz (C y1 m s).fst).getD b 0)else f.enc ((dz (f9 Z i).fst).getD b 0)) (f.enc ((r3 Z y1 m s i).getD b 0)))/\(if k i Z=true then
  e6 Z i else if q i Z=true then(C y1 m s).snd else(f9 Z i).snd)=(c1 Z y1 m s i).fst.snd/\(if k i Z=true then e8 Z i else if q i Z=true then decide
  ((D y1 m s).fst<0)else decide ((g0 Z i).fst<0))=decide ((c1 Z y1 m s i).snd.fst<0)/\(r4 i Z y1 m s=(r5 Z y1 m s i).length/\∀(b:Nat),b<
  r4 i Z y1 m s->bK (if k i Z=true then f.enc (f0 Z i b)else if q i Z=true then f.enc ((dz (D y1 m s).fst).getD b 0)else f.enc ((dz (g0 Z i).fst).getD
  b 0)) (f.enc ((r5 Z y1 m s i).getD b 0)))/\(if k i Z=true then f1 Z i else if q i Z=true then(D y1 m s).snd else(g0 Z i).snd)=(c1 Z y1 m s i).snd.snd
  /\True)/\True)/\y/\h8 y1 m/\True
 let r7:=1==0
 let r8:=λ(x:Bool)(m s Z:Int)(y1:List ao)(v1:List Ω)=>((!x)=true->r6 m s Z y1 v1)/\((!x)=false->h9 v1 s Z y1)
 let d2:=λ(x:List ao)=>y/\p2 x/\True
 let j6:=ab 58 True
 let j7:=λ(x:Int)(m:List ao)=>ab 9 (x=x/\ab 59 (d1 m/\x=x/\j6))
 let r9:=λ(x m:List ao)(s:Int)=>ab 3 (J x/\j7 s m)/\d2 x
 let z:=λ(x:Int)(m:List ao)=>0<=x/\x<h m
 let A:=λ(x:Int)(m:List ao)=>B x<c m
 let j8:=λ(x:Int)(m:List ao)=>0<=g x/\g x<h m
 let F:=λ(x:Int)=>0+(g x).toNat
 let d3:=λ(x:List ao)(m:Int)=>x.getD (B m) d0
 let s0:=λ(x:List ao)(m:Int)=>(d3 x m).snd
 let v:=λ(x:List ao)(m:Int)=>(s0 x m).snd
 let j9:=λ(x:List ao)(m:Int)=>u.ak (yc (v x m))
 let d4:=λ(x:List ao)(m:Int)=>x.getD (F m) d0
 let s1:=λ(x:List ao)(m:Int)=>(d4 x m).snd
 let G:=λ(x:List ao)(m:Int)=>(s1 x m).fst
 let s2:=λ(x:List ao)(m:Int)=>u.ak (yc (G x m))
 let s3:=λ(x:List ao)(m:Int)=>aW (dd (yy (v x m)) (yy (G x m)))
 let k0:=λ(x:List ao)(m:Int)=>decide (s3 x m>=0)
 let s4:=λ(x:List ao)(m:Int)=>(d3 x m).fst
 let k1:=λ(x:List ao)(m:Int)=>((∀i,i<(s4 x m).length->t/\e.ak (e.enc ((s4 x m).getD i 0)))/\u.ak (yc (s0 x m).fst)/\j9 x m)/\dA
  (nn (d3 x m))
 let s5:=λ(x:List ao)(m:Int)=>(d4 x m).fst
 let r:=λ(x:Nat)(m:Int)=>decide (x=F m)
 let k2:=λ(x:List ao)(m:Int)=>ai (nn (d3 x m))
 let k3:=λ(x:List ao)(m:Int)=>cE (w.enc (d3 x m)) 0 (nc (k2 x m))
 let k4:=λ(x:List ao)(m:Int)=>ai (nn (d4 x m))
 let o:=λ(x:Nat)(m:Int)=>decide (x=B m)
 let c2:=λ(x:List ao)(m:Int)=>ah w (c x) λi'=>af (r i' m) (cE (af (decide (F m=B m)) (k3 x m) (w.enc (d4 x m))) 0 (nc (k4 x m))) (af
  (o i' m) (k3 x m) (f7 x i'))
 let s6:=λ(x:List ao)(m:Int)=>(k4 x m).fst
 let s7:=λ(x:List ao)(m:Int)=>(k2 x m).fst
 let k5:=λ(x:Nat)(m:Int)(s:List ao)=>if o x m=true then(s7 s m).length else O s x
 let s8:=λ(x:Nat)(m:Int)(s:List ao)=>if r x m=true then(s6 s m).length else k5 x m s
 let s9:=λ(x:List ao)(m:Int)(s:Nat)=>((c2 x m).getD s d0).fst
 let t0:=λ(x m:Nat)(s:Int)(Z:List ao)=>if o x s=true then e.enc ((s7 Z s).getD m 0)else e.enc (K Z x m)
 let t1:=λ(x:List ao)(m:Int)=>(k4 x m).snd
 let g1:=λ(x:List ao)(m:Int)=>(t1 x m).fst
 let t2:=λ(x:List ao)(m:Int)=>(k2 x m).snd
 let g2:=λ(x:List ao)(m:Int)=>(t2 x m).fst
 let t3:=λ(x:Nat)(m:Int)(s:List ao)=>if o x m=true then decide ((g2 s m).fst<0)else e3 s x
 let g3:=λ(x:List ao)(m:Int)(s:Nat)=>((c2 x m).getD s d0).snd
 let k6:=λ(x:List ao)(m:Int)(s:Nat)=>(g3 x m s).fst.fst
 let k7:=λ(x:Nat)(m:Int)(s:List ao)=>if o x m=true then(dz (g2 s m).fst).length else P s x
 let t4:=λ(x:Nat)(m:Int)(s:List ao)=>if r x m=true then(dz (g1 s m).fst).length else k7 x m s
 let t5:=λ(x m:Nat)(s:Int)(Z:List ao)=>if o x s=true then f.enc ((dz (g2 Z s).fst).getD m 0)else f.enc (e5 Z x m)
 let t6:=λ(x:Nat)(m:Int)(s:List ao)=>if o x m=true then(g2 s m).snd else e6 s x
 let g4:=λ(x:List ao)(m:Int)=>(t1 x m).snd
 let g5:=λ(x:List ao)(m:Int)=>(t2 x m).snd
 let t7:=λ(x:Nat)(m:Int)(s:List ao)=>if o x m=true then decide ((g5 s m).fst<0)else e8 s x
 let k8:=λ(x:List ao)(m:Int)(s:Nat)=>(g3 x m s).snd.fst
 let k9:=λ(x:Nat)(m:Int)(s:List ao)=>if o x m=true then(dz (g5 s m).fst).length else Q s x
 let t8:=λ(x:Nat)(m:Int)(s:List ao)=>if r x m=true then(dz (g4 s m).fst).length else k9 x m s
 let t9:=λ(x m:Nat)(s:Int)(Z:List ao)=>if o x s=true then f.enc ((dz (g5 Z s).fst).getD m 0)else f.enc (f0 Z x m)
 let u0:=λ(x:Nat)(m:Int)(s:List ao)=>if o x m=true then(g5 s m).snd else f1 s x
 let u1:=λ(x:Int)(m s:List ao)=>ab 9 (x=x/\ab 59 (d1 m/\x=x/\ab 8 (f6 s/\x=x/\sm (B x)/\sm (B x)/\(sm (decide ((v s x).fst<0))/\(sm
  (dz (v s x).fst).length/\∀i,i<(dz (v s x).fst).length->sm ((dz (v s x).fst).getD i 0)/\True)/\sm (v s x).snd/\True)/\f6 s/\x=x/\f5 x/\sm (F
  x)/\sm (F x)/\(sm (decide ((G s x).fst<0))/\(sm (dz (G s x).fst).length/\∀i,i<(dz (G s x).fst).length->sm ((dz (G s x).fst).getD i 0)/\True)
  /\sm (G s x).snd/\True)/\sm (s3 s x)/\sm (k0 s x)/\ab 37 True)))
 let u2:=λ(x:List ao)(m:Int)=>(j9 x m/\h3)/\dp (yy (v x m))/\dp N
 let o0:=λ(x:List ao)(m:Int)=>decide (aW (dd (yy (v x m)) N)>=0)
 let H:=λ(x:List ao)(m:Int)=>ah w (c x) λi'=>af (o i' m) (k3 x m) (f7 x i')
 let u3:=λ(x:List ao)(m:Int)=>p/\c x=(H x m).length
 let u4:=λ(x:List ao)(m:Int)(s:Nat)=>((H x m).getD s d0).fst
 let g6:=λ(x:List ao)(m:Int)(s:Nat)=>((H x m).getD s d0).snd
 let o1:=λ(x:List ao)(m:Int)(s:Nat)=>(g6 x m s).fst.fst
 let o2:=λ(x:List ao)(m:Int)(s:Nat)=>(g6 x m s).snd.fst
 let u5:=λ(x:List ao)(m:Int)=>y/\((c x=(H x m).length/\j5/\∀i,i<c x->(k5 i m x=(u4 x m i).length/\∀(b:Nat),b<k5 i m x
  ->bK (t0 i b m x) (e.enc ((u4 x m i).getD b 0)))/\t3 i m x=decide (o1 x m i<0)/\(k7 i m x=(dz (o1 x m i)).length/\∀(b:Nat),b<k7 i m x->
  bK (t5 i b m x) (f.enc ((dz (o1 x m i)).getD b 0)))/\t6 i m x=(g6 x m i).fst.snd/\t7 i m x=decide (o2 x m i<0)/\(k9 i m x=(dz (o2 x m i)).length
  /\∀(b:Nat),b<k9 i m x->bK (t9 i b m x) (f.enc ((dz (o2 x m i)).getD b 0)))/\u0 i m x=(g6 x m i).snd.snd/\True)/\True)/\True
 let u6:=λ(x:List Ω)=>(↑(qK (c9 x)).length:Int)
 let u7:=λ(x m:List ao)(s:Int)(Z:List Ω)=>o0 x s=false->True/\gw Z (g s) (d x)/\(u6 Z-g s).toNat<(u6 Z-s).toNat/\ab
  3 (J x/\ab 69 (d1 m/\f5 s/\j6))/\d2 x
 let c3:=λ(x:List ao)(m:Nat)=>(x.getD (0+m) d0).fst
 let g7:=λ(x:List Ω)(m:Nat)=>((aC (c9 x)).getD m d0).fst
 let u8:=λ(x:List ao)(m:Nat)=>(x.getD (0+m) d0).snd
 let d5:=λ(x:List ao)(m:Nat)=>(u8 x m).fst
 let u9:=λ(x:List Ω)(m:Nat)=>((aC (c9 x)).getD m d0).snd
 let g8:=λ(x:List Ω)(m:Nat)=>(u9 x m).fst
 let d6:=λ(x:List ao)(m:Nat)=>(u8 x m).snd
 let g9:=λ(x:List Ω)(m:Nat)=>(u9 x m).snd
 ab 3 ((ia l 0 []/\ab 3 ((p/\p)/\ab 10 (c4 l/\c6 l/\h0/\o4))/\p/\h2/\True)/\∀(n:Int)(aw:List ao),ia l n aw->True/\(decide (n<
  c5 l)=true->(0<=n/\n<c5 l)/\True/\d8/\ab 4 ((((∀i,i<(d9 l n).length->t/\e.ak (e.enc ((d9 l n).getD i 0)))/\u.ak [SV.ff,SV.aq,o5]
  /\h3/\True)/\je (eR (d9 l n)) o6 N 1073741824)/\ab 2 ((dV l n 0 (d aw)/\ab 3 (J aw/\ab 10 (c4 l/\c6 l/\n=n/\ab 10 (h4 l n/\h5 l n/\h0
  /\h6)))/\p3 aw l n)/\∀(al:Int)(ac:List ao),dV l n al ac->True/\(decide (al<c8 l n)=true->(0<=al/\al<c8 l n)/\B al<c7 l n/\
  True/\d8/\ab 2 (((p5 l n al/\h3)/\eJ (nn (R l n al)) N)/\E/\(p6 l n al=true->h9 l n al ac)/\(p6 l n al=false->ab 2 ((iz (d ac) (h
  ac) false/\ab 3 (f6 ac/\ab 6 (d1 ac/\false=false/\q0 l n al))/\q4 ac l n al)/\∀(ax:Int)(az:Bool),iz (d ac) ax az->(q5 ax=true
  ->True/\((!az)=true->(0<=c0 ax/\c0 ax<h ac)/\0+(c0 ax).toNat<c ac/\ab 2 (((p5 l n al/\(∀i,i<(q6 ac ax).length->t/\e.ak (e.enc
  ((q6 ac ax).getD i 0)))/\u.ak (yc (q7 ac ax).fst)/\u.ak (yc (q7 ac ax).snd))/\il (nn (R l n al)) (nn (j2 ac ax)))/\E/\ab 2 ((t->True/\(t
  ->r6 ax n al ac l)/\(true=false->h9 l n al ac))/\(true=false->True/\iz (d ac) (c0 ax) r7/\0<0/\ab 3 (f6 ac/\ab 6 (sm (c0 ax)/\sm r7
  /\q0 l n al))/\q4 ac l n al))))/\((!az)=false->True/\r8 az ax n al ac l))/\(q5 ax=false->ab 2 (r8 az ax n al ac l))))))/\(decide (al<
  c8 l n)=false->True/\ia l (g n) (d ac)/\(1-g n).toNat<(1-n).toNat/\ab 3 (J ac/\ab 10 (c4 l/\c6 l/\f5 n/\o4))/\d2 ac))))/\(decide (n<
  c5 l)=false->True/\(gw l 0 (d aw)/\ab 3 (J aw/\ab 69 (d1 aw/\h0/\j6))/\d2 aw)/\∀(n:Int)(ac:List ao),gw l n ac->True/\(decide
  (n<h aw)=true->True/\(iO n (d ac) (d ac)/\r9 ac aw n)/\∀(X:List ao),iO n (d ac) X->(decide (g n<h X)=true->z n X/\A n
  X/\j8 n X/\F n<c X/\ab 2 (((j9 X n/\s2 X n)/\dp (yy (v X n))/\dp (yy (G X n)))/\E/\(k0 X n=true->z n X/\A n X/\True/\k1 X
  n/\j8 n X/\F n<c X/\True/\(((∀i,i<(s5 X n).length->t/\e.ak (e.enc ((s5 X n).getD i 0)))/\s2 X n/\u.ak (yc (s1 X n).snd))/\
  dA (nn (d4 X n)))/\z n X/\A n X/\j8 n X/\F n<c X/\E/\iO n (d ac) (c2 X n)/\W7 (c2 X n)<W7 X/\ab 3 ((p/\c X=(c2 X
  n).length)/\j7 n aw)/\y/\((c X=(c2 X n).length/\j5/\∀i,i<c X->(s8 i n X=(s9 X n i).length/\∀(b:Nat),b<s8 i n X->bK
  (if r i n=true then e.enc ((s6 X n).getD b 0)else t0 i b n X) (e.enc ((s9 X n i).getD b 0)))/\(if r i n=true then decide ((g1 X n).fst<0)else
  t3 i n X)=decide (k6 X n i<0)/\(t4 i n X=(dz (k6 X n i)).length/\∀(b:Nat),b<t4 i n X->bK (if r i n=true then f.enc ((dz (g1 X
  n).fst).getD b 0)else t5 i b n X) (f.enc ((dz (k6 X n i)).getD b 0)))/\(if r i n=true then(g1 X n).snd else t6 i n X)=(g3 X n i).fst.snd/\
  (if r i n=true then decide ((g4 X n).fst<0)else t7 i n X)=decide (k8 X n i<0)/\(t8 i n X=(dz (k8 X n i)).length/\∀(b:Nat),b<t8 i
  n X->bK (if r i n=true then f.enc ((dz (g4 X n).fst).getD b 0)else t9 i b n X) (f.enc ((dz (k8 X n i)).getD b 0)))/\(if r i n=true then(g4
  X n).snd else u0 i n X)=(g3 X n i).snd.snd/\True)/\True)/\True)/\(k0 X n=false->(cT n (d X) (d X)/\ab 3 (J X/\u1 n aw X)/\d2 X)
  /\∀(ad:List ao),cT n (d X) ad->z n ad/\A n ad/\d8/\ab 2 (u2 ad n/\E/\(o0 ad n=true->z n ad/\A n ad/\True/\k1 ad n/\z n ad/\A
  n ad/\True/\cT n (d X) (H ad n)/\mu5 n (H ad n)<mu5 n ad/\ab 3 (u3 ad n/\u1 n aw X)/\u5 ad n)/\u7 ad aw n l))))/\(decide (g n<h X)
  =false->E/\(cT n (d X) (d X)/\r9 X aw n)/\∀(ad:List ao),cT n (d X) ad->z n ad/\A n ad/\d8/\ab 2 (u2 ad n/\E/\(o0 ad n=
  true->z n ad/\A n ad/\True/\k1 ad n/\z n ad/\A n ad/\True/\cT n (d X) (H ad n)/\mu5 n (H ad n)<mu5 n ad/\ab 3 (u3 ad n/\j7 n aw)/\
  u5 ad n)/\u7 ad aw n l)))/\(decide (n<h aw)=false->True/\(0+c ac<=c ac/\∀i,i<c ac->t)/\(c ac=(aC (c9 l)).length/\∀(i:Nat),
  i<c ac->((c3 ac i).length=(g7 l i).length/\∀(b:Nat),b<(c3 ac i).length->decide ((c3 ac i).getD b 0<0)=decide ((g7 l i).getD b 0<0)
  /\((dz ((c3 ac i).getD b 0)).length=(dz ((g7 l i).getD b 0)).length/\∀(ay:Nat),ay<(dz ((c3 ac i).getD b 0)).length->(dz ((c3 ac i).getD b
  0)).getD ay 0=(dz ((g7 l i).getD b 0)).getD ay 0/\True)/\True)/\decide ((d5 ac i).fst<0)=decide ((g8 l i).fst<0)/\((dz (d5 ac i).fst).length=
  (dz (g8 l i).fst).length/\∀(b:Nat),b<(dz (d5 ac i).fst).length->(dz (d5 ac i).fst).getD b 0=(dz (g8 l i).fst).getD b 0/\True)/\(d5 ac i).snd
  =(g8 l i).snd/\decide ((d6 ac i).fst<0)=decide ((g9 l i).fst<0)/\((dz (d6 ac i).fst).length=(dz (g9 l i).fst).length/\∀(b:Nat),b<(dz (d6
  ac i).fst).length->(dz (d6 ac i).fst).getD b 0=(dz (g9 l i).fst).getD b 0/\True)/\(d6 ac i).snd=(g9 l i).snd/\True)/\True))))=SU l:=by kernel_rfl
@[simp] theorem rwN_eq(l:List ao):rwN l=l:=iJ (C:=ei) rfl
@[simp] theorem nn_eq(a:ao):nn a=a:=by unfold nn;simp
@[simp] theorem nc_good(a:ao):ei.ak (nc a):=ei.kW a
@[simp] theorem good0:cR.ak [SV.ff,SV.aq,SV.int .i64 0]:=EK.mk ⟨trivial,false,[],rfl,rfl,Ei,λh=>by cases h⟩
theorem x8(a:ao):ei.dec (nc a)=some a:=ei.self a
theorem len_enc(a:ao):(ei.enc a).length=7:=rfl
theorem Ul(a:ao):(nc a).length=7:=rfl
theorem Ea{x y:List SV}(h:x.length=y.length):cE x 0 y=y:=by
 unfold cE;rw[Z8,Jj,Jg,Y6 (by omega),Kw]
theorem yo{c:Bool}:∀{x y:List SV},x.length=y.length->(af c x y).length=x.length
 |[],[],_=>rfl
 |_::r,_::r',h=>by simp only[af,Jc];rw[yo (by simpa using h)]
 |[],_::_,h=>by simp at h
 |_::_,[],h=>by simp at h
theorem Rv(a b:ao):cE (ei.enc a) 0 (nc b)=nc b:=Ea rfl
theorem Nj(c:Bool)(a b d:ao):cE (af c (nc a) (ei.enc b)) 0 (nc d)=nc d:=Ea (by rw[yo (by rw[Ul,len_enc])];rfl)
theorem Vv(l:List ao)(a:ao):(ah ei (l.length+1) λj=>af (decide (j<l.length)) (ei.enc (l.getD j d0)) (af (decide (j-l.length=0)) (nc a) (ei.enc (l.getD (j-l.length-1) d0))))=l++[a]:=
 xx (C:=ei) (k:=1) (m:=[a]) (g:=λi=>af (decide (i=0)) (nc a) (ei.enc (l.getD (i-1) d0))) rfl rfl (λi b=>by
  have e:i=0:=by omega
  subst e;rw[ei.Aa _ _ _ _ _ (x8 a) (ei.self _)];simp) (by rw[ei.Aa _ _ _ _ _ (x8 a) (ei.self _)];rfl)
theorem setN1(l:List ao)(k:Nat)(v:ao):(ah ei l.length λi=>af (decide (i=k)) (nc v) (ei.enc (l.getD i d0)))=l.set k v:=aaV (C:=ei) rfl (x8 v)
theorem ZQ(l:List ao)(j k:Nat)(v w:ao):(ah ei l.length λi=>af (decide (i=k)) (nc w) (af (decide (i=j)) (nc v) (ei.enc (l.getD i d0))))=(l.set j v).set k w:=by
 refine kj (by simp) λi d=>?_
 rw[ei.Aa _ _ _ _ _ (x8 w) (ei.Aa _ _ _ _ _ (x8 v) (ei.self _))];simp only[JG,J0,K6,Ks]
 by_cases b:i=k
 . subst b;simp[d]
 . rw[JA b,JA (λh:k=i=>b h.symm)]
   by_cases c:i=j
   . subst c;simp[d]
   . rw[JA c,JA (λh:j=i=>c h.symm)];rfl
theorem k354:aH prog UR:=av k211 hm func354 (by kernel_rfl) (by kernel_rfl) iR.nil.ok (by kernel_rfl) (λ_=>[]) λa b=>by
 have h:SF a:=by
  rw[<-LH];generalize a=u at*
  try dsimp only at b
  simp[-List.getD_eq_getElem?_getD];have e:dz y1.1=[1]:=by
   have c:dz y1.1=lm 1:=by unfold dz y1;rfl
   rw[c,oM (by omega),show 1/4294967296=0 from rfl,ur];rfl
  rw[e];exact⟨by unfold fN;omega,by unfold y1;omega,⟨rfl,rfl⟩,rfl⟩
 exact h
end Go.Proofs.Big
namespace Go.Proofs.Big
open Go Go.Sx Go.Proofs Tryz
variable [bW]
set_option maxHeartbeats 4000000
attribute [local irreducible] lm nv tl dg dz
theorem dO(p:Ω):qK p=(dG p).filter kV:=by unfold qK;rfl
theorem zQ(p:Ω):dG p=bR p (0,0) y1:=by unfold dG y0;rfl
theorem Ro{p:Ω}(h:okB p):je p y0 y1 1073741824/\(dG p).length<=2/\(∀a∈dG p,eJ a y1)/\Lo (qK p):=by unfold okB at h;exact h
theorem Nv{l:List ao}(h:Lo l):l.length<=2/\(l.length=2->il (l.getD 1 d0) (l.getD 0 d0)/\po jR ke zK 3000 (l.getD 0 d0,l.getD 1 d0))/\∀i,i<l.length->C1 ((pj i (oD l i)).getD i d0):=by unfold Lo at h;exact h
theorem yd(a:ao):kV a=decide (gn a y1<0):=by unfold kV;rfl
theorem uk{l:List ao}{i:Nat}(h:i<l.length):l.getD i d0∈l:=by
 rw[J0,J4 h];exact Ku _
theorem Bn{l:List ao}{i:Nat}(h:i<l.length):l.take (i+1)=l.take i++[l.getD i d0]:=by
 rw[X4,J0,J4 h];rfl
theorem kept_part{l:List ao}{i:Nat}(h:i<l.length)(b:kV (l.getD i d0)=true):∃r,l.filter kV=(l.take i).filter kV++(l.getD i d0)::r:=by
 refine⟨(l.drop (i+1)).filter kV,?_⟩
 conv=>lhs;rw[<-List.take_append_drop (i+1) l,Y7,Bn h,Y7]
 simp only[Q3,b,JE,List.filter_nil,Jq,K0,Jj]
theorem QR{l:List ao}:(yK l).length=l.length:=by
 unfold yK;split
 . next h=>rw[h];rfl
 . rfl
theorem PJ{i:Nat}{l:List ao}:(pj i l).length=l.length:=by
 unfold pj;split
 . exact QR
 . rfl
theorem xN(l:List ao):oD l 0=l:=by kernel_rfl
theorem kG(l:List ao)(k:Nat):oD l (k+1)=(pj k (oD l k)).set k (pH ((pj k (oD l k)).getD k d0)):=by kernel_rfl
theorem Cz{l:List ao}:∀k,(oD l k).length=l.length
 |0=>by rw[xN]
 |k+1=>by rw[kG,Ks,PJ,Cz k]
theorem uS(p:Ω):aC p=oD (qK p) (qK p).length:=by unfold aC;rfl
theorem zj{q:ao}(h:dA q):dp q.2.1/\dp q.2.2:=by
 obtain⟨h,_⟩:=zJ h;unfold ql at h;exact⟨h.1,h.2.1⟩
theorem Hq:dp y1:=by
 unfold dp y1;refine⟨?_,by omega,by omega⟩;have b:pw 1<=pw 10000:=gT (by omega);have c:pw 1=4294967296:=by rw[bD,fh];rfl
 omega
theorem Eb(a:ao):xF a=decide (aW (dd a.2.2 y1)<0):=by unfold xF;rfl
theorem FO(s:ao×ao):jR s=decide (aW (dd s.1.2.2 s.2.2.1)<0):=by unfold jR;rfl
theorem tP{l:List ao}{i:Nat}(h:i<l.length):l=l.set i (l.getD i d0):=by
 rw[J0,J4 h];simp
theorem WC{l:List ao}(h:l.length=2):l=[l.getD 0 d0,l.getD 1 d0]:=by
 match l,h with
 |[a,b],_=>rfl
theorem elt2{c:Prop}[Decidable c]{x y v:ao}(d:v=if c then x else y):((if c then x.fst.length else y.fst.length)=v.fst.length/\∀(b:Nat),(b<if c then x.fst.length else y.fst.length)->bK (if c then aj.enc (x.fst.getD b (0:Int))else aj.enc (y.fst.getD b (0:Int))) (aj.enc (v.fst.getD b (0:Int))))/\(if c then decide (x.snd.fst.fst<(0:Int))else decide (y.snd.fst.fst<(0:Int)))=decide (v.snd.fst.fst<(0:Int))/\((if c then(dz x.snd.fst.fst).length else(dz y.snd.fst.fst).length)=(dz v.snd.fst.fst).length/\∀(b:Nat),(b<if c then(dz x.snd.fst.fst).length else(dz y.snd.fst.fst).length)->bK (if c then [SV.int .u32 ((dz x.snd.fst.fst).getD b (0:Int))]else [SV.int .u32 ((dz y.snd.fst.fst).getD b (0:Int))]) [SV.int .u32 ((dz v.snd.fst.fst).getD b (0:Int))])/\(if c then x.snd.fst.snd else y.snd.fst.snd)=v.snd.fst.snd/\(if c then decide (x.snd.snd.fst<(0:Int))else decide (y.snd.snd.fst<(0:Int)))=decide (v.snd.snd.fst<(0:Int))/\((if c then(dz x.snd.snd.fst).length else(dz y.snd.snd.fst).length)=(dz v.snd.snd.fst).length/\∀(b:Nat),(b<if c then(dz x.snd.snd.fst).length else(dz y.snd.snd.fst).length)->bK (if c then [SV.int .u32 ((dz x.snd.snd.fst).getD b (0:Int))]else [SV.int .u32 ((dz y.snd.snd.fst).getD b (0:Int))]) [SV.int .u32 ((dz v.snd.snd.fst).getD b (0:Int))])/\(if c then x.snd.snd.snd else y.snd.snd.snd)=v.snd.snd.snd:=by
 subst d
 by_cases h:c
 . simp only[JB h];exact⟨⟨trivial,λj _=>GP _⟩,trivial,⟨trivial,λj _=>⟨rfl,trivial⟩⟩,trivial,trivial,⟨trivial,λj _=>⟨rfl,trivial⟩⟩,trivial⟩
 . simp only[JA h];exact⟨⟨trivial,λj _=>GP _⟩,trivial,⟨trivial,λj _=>⟨rfl,trivial⟩⟩,trivial,trivial,⟨trivial,λj _=>⟨rfl,trivial⟩⟩,trivial⟩
theorem VF{c d:Prop}[Decidable c][Decidable d]{x y z v:ao}(e:v=if c then x else if d then y else z):((if c then x.fst.length else if d then y.fst.length else z.fst.length)=v.fst.length/\∀(b:Nat),(b<if c then x.fst.length else if d then y.fst.length else z.fst.length)->bK (if c then aj.enc (x.fst.getD b (0:Int))else if d then aj.enc (y.fst.getD b (0:Int))else aj.enc (z.fst.getD b (0:Int))) (aj.enc (v.fst.getD b (0:Int))))/\(if c then decide (x.snd.fst.fst<(0:Int))else if d then decide (y.snd.fst.fst<(0:Int))else decide (z.snd.fst.fst<(0:Int)))=decide (v.snd.fst.fst<(0:Int))/\((if c then(dz x.snd.fst.fst).length else if d then(dz y.snd.fst.fst).length else(dz z.snd.fst.fst).length)=(dz v.snd.fst.fst).length/\∀(b:Nat),(b<if c then(dz x.snd.fst.fst).length else if d then(dz y.snd.fst.fst).length else(dz z.snd.fst.fst).length)->bK (if c then [SV.int .u32 ((dz x.snd.fst.fst).getD b (0:Int))]else if d then [SV.int .u32 ((dz y.snd.fst.fst).getD b (0:Int))]else [SV.int .u32 ((dz z.snd.fst.fst).getD b (0:Int))]) [SV.int .u32 ((dz v.snd.fst.fst).getD b (0:Int))])/\(if c then x.snd.fst.snd else if d then y.snd.fst.snd else z.snd.fst.snd)=v.snd.fst.snd/\(if c then decide (x.snd.snd.fst<(0:Int))else if d then decide (y.snd.snd.fst<(0:Int))else decide (z.snd.snd.fst<(0:Int)))=decide (v.snd.snd.fst<(0:Int))/\((if c then(dz x.snd.snd.fst).length else if d then(dz y.snd.snd.fst).length else(dz z.snd.snd.fst).length)=(dz v.snd.snd.fst).length/\∀(b:Nat),(b<if c then(dz x.snd.snd.fst).length else if d then(dz y.snd.snd.fst).length else(dz z.snd.snd.fst).length)->bK (if c then [SV.int .u32 ((dz x.snd.snd.fst).getD b (0:Int))]else if d then [SV.int .u32 ((dz y.snd.snd.fst).getD b (0:Int))]else [SV.int .u32 ((dz z.snd.snd.fst).getD b (0:Int))]) [SV.int .u32 ((dz v.snd.snd.fst).getD b (0:Int))])/\(if c then x.snd.snd.snd else if d then y.snd.snd.snd else z.snd.snd.snd)=v.snd.snd.snd:=by
 subst e
 by_cases h:c
 . simp only[JB h];exact⟨⟨trivial,λj _=>GP _⟩,trivial,⟨trivial,λj _=>⟨rfl,trivial⟩⟩,trivial,trivial,⟨trivial,λj _=>⟨rfl,trivial⟩⟩,trivial⟩
 . simp only[JA h];exact elt2 rfl
theorem OP{l:List Ω}{b:Int}{e:List ao}(F:0<=b)(G:b<(qK (l.getD 0 [])).length)(m:Lo (qK (l.getD 0 [])))(o:e=pj b.toNat (oD (qK (l.getD 0 [])) b.toNat)):cT b e e/\∀(c:List ao),
 cT b e c->((0:Int)<=b/\b< ↑c.length)/\b.toNat<c.length/\(dp (c.getD b.toNat d0).snd.snd/\dp y1)/\((0:Int)<=aW (dd (c.getD
 b.toNat d0).snd.snd y1)->((0:Int)<=b/\b< ↑c.length)/\b.toNat<c.length/\dA (c.getD b.toNat d0)/\((0:Int)<=b/\b< ↑c.length)
 /\b.toNat<c.length/\cT b e (c.set b.toNat (ai (c.getD b.toNat d0)))/\mu5 b (c.set b.toNat (ai (c.getD b.toNat d0)))<mu5
 b c/\∀i,i<c.length->((if i=b.toNat then(ai (c.getD b.toNat d0)).fst.length else(c.getD i d0).fst.length)=((c.set b.toNat
 (ai (c.getD b.toNat d0))).getD i d0).fst.length/\∀(d:Nat),(d<if i=b.toNat then(ai (c.getD b.toNat d0)).fst.length else(c.getD i
 d0).fst.length)->bK (if i=b.toNat then aj.enc ((ai (c.getD b.toNat d0)).fst.getD d (0:Int))else aj.enc ((c.getD i d0).fst.getD d (0:
 Int))) (aj.enc (((c.set b.toNat (ai (c.getD b.toNat d0))).getD i d0).fst.getD d (0:Int))))/\(if i=b.toNat then decide ((ai (c.getD b.toNat
 d0)).snd.fst.fst<(0:Int))else decide ((c.getD i d0).snd.fst.fst<(0:Int)))=decide (((c.set b.toNat (ai (c.getD b.toNat d0))).getD i d0).snd.fst.fst
 <(0:Int))/\((if i=b.toNat then(dz (ai (c.getD b.toNat d0)).snd.fst.fst).length else(dz (c.getD i d0).snd.fst.fst).length)=(dz ((c.set b.toNat
 (ai (c.getD b.toNat d0))).getD i d0).snd.fst.fst).length/\∀(d:Nat),(d<if i=b.toNat then(dz (ai (c.getD b.toNat d0)).snd.fst.fst).length
 else(dz (c.getD i d0).snd.fst.fst).length)->bK (if i=b.toNat then [SV.int .u32 ((dz (ai (c.getD b.toNat d0)).snd.fst.fst).getD d (0:Int))]
 else [SV.int .u32 ((dz (c.getD i d0).snd.fst.fst).getD d (0:Int))]) [SV.int .u32 ((dz ((c.set b.toNat (ai (c.getD b.toNat d0))).getD
 i d0).snd.fst.fst).getD d (0:Int))])/\(if i=b.toNat then(ai (c.getD b.toNat d0)).snd.fst.snd else(c.getD i d0).snd.fst.snd)=((c.set b.toNat
 (ai (c.getD b.toNat d0))).getD i d0).snd.fst.snd/\(if i=b.toNat then decide ((ai (c.getD b.toNat d0)).snd.snd.fst<(0:Int))else decide ((c.getD
 i d0).snd.snd.fst<(0:Int)))=decide (((c.set b.toNat (ai (c.getD b.toNat d0))).getD i d0).snd.snd.fst<(0:Int))/\((if i=b.toNat then(dz
 (ai (c.getD b.toNat d0)).snd.snd.fst).length else(dz (c.getD i d0).snd.snd.fst).length)=(dz ((c.set b.toNat (ai (c.getD b.toNat d0))).getD
 i d0).snd.snd.fst).length/\∀(d:Nat),(d<if i=b.toNat then(dz (ai (c.getD b.toNat d0)).snd.snd.fst).length else(dz (c.getD i d0).snd.snd.fst).length)
 ->bK (if i=b.toNat then [SV.int .u32 ((dz (ai (c.getD b.toNat d0)).snd.snd.fst).getD d (0:Int))]else [SV.int .u32 ((dz (c.getD
 i d0).snd.snd.fst).getD d (0:Int))]) [SV.int .u32 ((dz ((c.set b.toNat (ai (c.getD b.toNat d0))).getD i d0).snd.snd.fst).getD d (0:Int))])
 /\(if i=b.toNat then(ai (c.getD b.toNat d0)).snd.snd.snd else(c.getD i d0).snd.snd.snd)=((c.set b.toNat (ai (c.getD b.toNat d0))).getD
 i d0).snd.snd.snd)/\(aW (dd (c.getD b.toNat d0).snd.snd y1)<(0:Int)->gw l (W (b+(1:Int))) c/\max (↑(qK (l.getD (0:Nat) [])).length
 -W (b+(1:Int))) (0:Int)< ↑(qK (l.getD (0:Nat) [])).length-b):=by
 obtain⟨H,J,A⟩:=Nv m;have K:e.length=(qK (l.getD 0 [])).length:=by rw[o,PJ,Cz]
 have p:b.toNat<e.length:=by omega
 refine⟨?_,λc y=>?_⟩
 . unfold cT;refine⟨tP p,by unfold pH;rfl,3000,by omega,?_⟩;have:=A b.toNat (by omega);rw[<-o]at this;unfold C1 at this;exact this
 . unfold cT at y;obtain⟨q,r,k,m,u⟩:=y;have B:c.length=e.length:=by rw[q,Ks]
   have h:b.toNat<c.length:=by omega
   refine⟨by omega,h,⟨(zj (zd u)).2,Hq⟩,λz=>?_,λz=>?_⟩
   . have w:xF (c.getD b.toNat d0)=false:=by rw[Eb,JH (by omega)]
     obtain⟨⟨j,L,C⟩,D,E⟩:=IA u m w;have g:(c.set b.toNat (ai (c.getD b.toNat d0))).getD b.toNat d0=ai (c.getD b.toNat d0):=by rw[bo h,JB rfl]
     refine⟨by omega,h,zd u,by omega,h,?_,?_,λi p=>?_⟩
     . unfold cT;rw[g];refine⟨?_,by rw[D,r],j,by omega,C⟩;exact(JM (λx:List ao=>x.set b.toNat (ai (c.getD b.toNat d0))) q).trans (by rw[List.set_set])
     . unfold mu5;rw[g];exact E
     . exact elt2 (bo p)
   . have w:xF (c.getD b.toNat d0)=true:=by rw[Eb,JJ z]
     rw[Ic w]at r;rw[aO (n:=b+1) (by omega) (by omega)];refine⟨?_,by omega⟩;unfold gw;refine⟨by omega,by omega,?_⟩;rw[show(b+1).toNat=b.toNat+1 by omega,kG,<-o,<-r];exact q
theorem g353{l:List Ω}(hp:qJ l):
 let P:=λ(m:List Ω)=>(↑m.length:Int)
 let d:=λ(m:Int)=>m.toNat
 let d5:=((0:Int),(0:Int))
 let Q:=λ(m:List Ω)(b:Int)=>bR (m.getD (d b) []) d5 y1
 let R:=λ(m:List Ω)(b:Int)=>(↑(Q m b).length:Int)
 let q:=λ(m:List Ω)(b y1:Int)=>(Q m b).getD (d y1) d0
 let g:=λ(m:Int)=>W (m+1)
 let w:=λ(m:List Ω)=>m.getD 0 []
 let d6:=λ(m:List Ω)=>(↑(dG (w m)).length:Int)
 let d7:=λ(m:List Ω)(b:Int)=>max (d6 m-g b) 0<d6 m-b
 let T:=λ(m:List Ω)(b y1:Int)(u1:List ao)=>dV m b (g y1) u1/\d7 m y1
 let c:=λ(m:List ao)=>m.length
 let j:=λ(m:List ao)=>(↑(c m):Int)
 let c0:=λ(m:List ao)(b:List Ω)(y1 u1:Int)=>m++[q b y1 u1]
 let d8:=λ(m:List ao)(b:Nat)=>(m.getD b d0).fst
 let y:=λ(m:List ao)(b:Nat)=>(d8 m b).length
 let h:=λ(m:Nat)(b:List ao)=>m-c b
 let d9:=λ(m:List Ω)(b y1:Int)=>(q m b y1).fst
 let e0:=λ(m:List ao)(b:Nat)=>(m.getD (h b m-1) d0).fst
 let e1:=λ(m:Nat)(b:List ao)(y1:List Ω)(u1 v1:Int)=>if m<c b then y b m else if h m b=0 then(d9 y1 u1 v1).length else(e0 b
  m).length
 let e2:=λ(m:List ao)(b:List Ω)(y1 u1:Int)(v1:Nat)=>((c0 m b y1 u1).getD v1 d0).fst
 let k:=aj
 let r:=λ(m:List ao)(b y1:Nat)=>(d8 m b).getD y1 0
 let e3:=λ(m:List ao)(b:Nat)=>(m.getD b d0).snd
 let o:=λ(m:List ao)(b:Nat)=>(e3 m b).fst
 let e4:=λ(m:List ao)(b:Nat)=>decide ((o m b).fst<0)
 let z:=λ(m:List Ω)(b y1:Int)=>(q m b y1).snd
 let c1:=λ(m:List Ω)(b y1:Int)=>(z m b y1).fst.fst
 let e5:=λ(m:List ao)(b:Nat)=>(m.getD (h b m-1) d0).snd
 let A:=λ(m:List ao)(b:Nat)=>(e5 m b).fst
 let s:=λ(m:List ao)(b:List Ω)(y1 u1:Int)(v1:Nat)=>((c0 m b y1 u1).getD v1 d0).snd
 let B:=λ(m:List ao)(b:Nat)=>(dz (o m b).fst).length
 let e6:=λ(m:Nat)(b:List ao)(y1:List Ω)(u1 v1:Int)=>if m<c b then B b m else if h m b=0 then(dz (c1 y1 u1 v1)).length else(dz
  (A b m).fst).length
 let e7:=λ(m:List ao)(b:List Ω)(y1 u1:Int)(v1:Nat)=>dz (s m b y1 u1 v1).fst.fst
 let f:=([]:List SV)
 let e8:=λ(m:List ao)(b y1:Nat)=>SV.int .u32 ((dz (o m b).fst).getD y1 0)::f
 let p:=λ(m:List ao)(b:Nat)=>(e3 m b).snd
 let e9:=λ(m:List ao)(b:Nat)=>decide ((p m b).fst<0)
 let c2:=λ(m:List Ω)(b y1:Int)=>(z m b y1).snd.fst
 let C:=λ(m:List ao)(b:Nat)=>(e5 m b).snd
 let D:=λ(m:List ao)(b:Nat)=>(dz (p m b).fst).length
 let f0:=λ(m:Nat)(b:List ao)(y1:List Ω)(u1 v1:Int)=>if m<c b then D b m else if h m b=0 then(dz (c2 y1 u1 v1)).length else(dz
  (C b m).fst).length
 let f1:=λ(m:List ao)(b:List Ω)(y1 u1:Int)(v1:Nat)=>dz (s m b y1 u1 v1).snd.fst
 let f2:=λ(m:List ao)(b y1:Nat)=>SV.int .u32 ((dz (p m b).fst).getD y1 0)::f
 let f3:=λ(m b y1:Int)(u1:List ao)(v1:List Ω)=>(0<=m/\m<=j u1)/\m=j u1/\(d m=c u1/\c u1<=140737488355327/\(c u1+1)*104<=
  140737488355328)/\dV v1 b (g y1) (c0 u1 v1 b y1)/\d7 v1 y1/\∀i,i<c u1+1->(e1 i u1 v1 b y1=(e2 u1 v1 b y1 i).length/\∀(Z:Nat),
  Z<e1 i u1 v1 b y1->bK (if i<c u1 then k.enc (r u1 i Z)else if h i u1=0 then k.enc ((d9 v1 b y1).getD Z 0)else k.enc ((e0 u1 i).getD Z 0)) (k.enc
  ((e2 u1 v1 b y1 i).getD Z 0)))/\(if i<c u1 then e4 u1 i else if h i u1=0 then decide (c1 v1 b y1<0)else decide ((A u1 i).fst<0))=decide ((s u1 v1
  b y1 i).fst.fst<0)/\(e6 i u1 v1 b y1=(e7 u1 v1 b y1 i).length/\∀(Z:Nat),Z<e6 i u1 v1 b y1->bK (if i<c u1 then e8 u1 i Z else if h i u1
  =0 then SV.int .u32 ((dz (c1 v1 b y1)).getD Z 0)::f else SV.int .u32 ((dz (A u1 i).fst).getD Z 0)::f) (SV.int .u32 ((e7 u1 v1 b y1
  i).getD Z 0)::f))/\(if i<c u1 then(o u1 i).snd else if h i u1=0 then(z v1 b y1).fst.snd else(A u1 i).snd)=(s u1 v1 b y1 i).fst.snd/\(if i<c u1
  then e9 u1 i else if h i u1=0 then decide (c2 v1 b y1<0)else decide ((C u1 i).fst<0))=decide ((s u1 v1 b y1 i).snd.fst<0)/\(f0 i u1 v1 b y1=(f1
  u1 v1 b y1 i).length/\∀(Z:Nat),Z<f0 i u1 v1 b y1->bK (if i<c u1 then f2 u1 i Z else if h i u1=0 then SV.int .u32 ((dz (c2 v1 b y1)).getD
  Z 0)::f else SV.int .u32 ((dz (C u1 i).fst).getD Z 0)::f) (SV.int .u32 ((f1 u1 v1 b y1 i).getD Z 0)::f))/\(if i<c u1 then(p u1 i).snd
  else if h i u1=0 then(z v1 b y1).snd.snd else(C u1 i).snd)=(s u1 v1 b y1 i).snd.snd
 let t:=λ(m:Int)(b:List ao)=>0<=m/\m<j b
 let u:=λ(m:Int)(b:List ao)=>d m<c b
 let c3:=λ(m:Int)(b:List ao)=>0<=g m/\g m<j b
 let e:=λ(m:Int)=>(g m).toNat
 let v:=λ(m:List ao)(b:Int)=>(m.getD (d b) d0).snd.snd
 let c4:=λ(m:List ao)(b:Int)=>(m.getD (e b) d0).snd.fst
 let c5:=λ(m:List ao)(b:Int)=>ai (m.getD (d b) d0)
 let x:=λ(m:List ao)(b:Int)=>m.set (d b) (c5 m b)
 let c6:=λ(m:List ao)(b:Int)=>ai (m.getD (e b) d0)
 let E:=λ(m:List ao)(b:Int)=>(x m b).set (e b) (c6 m b)
 let f4:=λ(m:List ao)(b:Int)=>(c6 m b).fst
 let f5:=λ(m:List ao)(b:Int)=>(c5 m b).fst
 let c7:=λ(m:Nat)(b:Int)(y1:List ao)=>if m=d b then(f5 y1 b).length else y y1 m
 let f6:=λ(m:Nat)(b:Int)(y1:List ao)=>if m=e b then(f4 y1 b).length else c7 m b y1
 let f7:=λ(m:List ao)(b:Int)(y1:Nat)=>((E m b).getD y1 d0).fst
 let f8:=λ(m b:Nat)(y1:Int)(u1:List ao)=>if m=d y1 then k.enc ((f5 u1 y1).getD b 0)else k.enc (r u1 m b)
 let f9:=λ(m:List ao)(b:Int)=>(c6 m b).snd
 let F:=λ(m:List ao)(b:Int)=>(f9 m b).fst
 let g0:=λ(m:List ao)(b:Int)=>(c5 m b).snd
 let G:=λ(m:List ao)(b:Int)=>(g0 m b).fst
 let g1:=λ(m:Nat)(b:Int)(y1:List ao)=>if m=d b then decide ((G y1 b).fst<0)else e4 y1 m
 let H:=λ(m:List ao)(b:Int)(y1:Nat)=>((E m b).getD y1 d0).snd
 let c8:=λ(m:List ao)(b:Int)(y1:Nat)=>(H m b y1).fst.fst
 let c9:=λ(m:Nat)(b:Int)(y1:List ao)=>if m=d b then(dz (G y1 b).fst).length else B y1 m
 let g2:=λ(m:Nat)(b:Int)(y1:List ao)=>if m=e b then(dz (F y1 b).fst).length else c9 m b y1
 let g3:=λ(m b:Nat)(y1:Int)(u1:List ao)=>if m=d y1 then SV.int .u32 ((dz (G u1 y1).fst).getD b 0)::f else e8 u1 m b
 let g4:=λ(m:Nat)(b:Int)(y1:List ao)=>if m=d b then(G y1 b).snd else(o y1 m).snd
 let J:=λ(m:List ao)(b:Int)=>(f9 m b).snd
 let K:=λ(m:List ao)(b:Int)=>(g0 m b).snd
 let g5:=λ(m:Nat)(b:Int)(y1:List ao)=>if m=d b then decide ((K y1 b).fst<0)else e9 y1 m
 let d1:=λ(m:List ao)(b:Int)(y1:Nat)=>(H m b y1).snd.fst
 let d2:=λ(m:Nat)(b:Int)(y1:List ao)=>if m=d b then(dz (K y1 b).fst).length else D y1 m
 let g6:=λ(m:Nat)(b:Int)(y1:List ao)=>if m=e b then(dz (J y1 b).fst).length else d2 m b y1
 let g7:=λ(m b:Nat)(y1:Int)(u1:List ao)=>if m=d y1 then SV.int .u32 ((dz (K u1 y1).fst).getD b 0)::f else f2 u1 m b
 let g8:=λ(m:Nat)(b:Int)(y1:List ao)=>if m=d b then(K y1 b).snd else(p y1 m).snd
 let g9:=λ(m:List ao)(b:Int)(y1:Nat)=>((x m b).getD y1 d0).fst
 let L:=λ(m:List ao)(b:Int)(y1:Nat)=>((x m b).getD y1 d0).snd
 let d3:=λ(m:List ao)(b:Int)(y1:Nat)=>(L m b y1).fst.fst
 let d4:=λ(m:List ao)(b:Int)(y1:Nat)=>(L m b y1).snd.fst
 let h0:=λ(m:List Ω)=>(↑(qK (w m)).length:Int)
 let h1:=λ(m:Int)(b:List ao)(u1:List Ω)=>cT m b b/\∀(ad:List ao),cT m b ad->t m ad/\u m ad/\(dp (v ad m)/\dp
  y1)/\(0<=aW (dd (v ad m) y1)->t m ad/\u m ad/\dA (ad.getD (d m) d0)/\t m ad/\u m ad/\cT m b (x ad m)/\mu5 m (x ad m)<mu5 m ad/\
  ∀i,i<c ad->(c7 i m ad=(g9 ad m i).length/\∀(Z:Nat),Z<c7 i m ad->bK (f8 i Z m ad) (k.enc ((g9 ad m i).getD Z 0)))/\g1 i m
  ad=decide (d3 ad m i<0)/\(c9 i m ad=(dz (d3 ad m i)).length/\∀(Z:Nat),Z<c9 i m ad->bK (g3 i Z m ad) (SV.int .u32 ((dz (d3 ad
  m i)).getD Z 0)::f))/\g4 i m ad=(L ad m i).fst.snd/\g5 i m ad=decide (d4 ad m i<0)/\(d2 i m ad=(dz (d4 ad m i)).length/\∀(Z:Nat),Z
  <d2 i m ad->bK (g7 i Z m ad) (SV.int .u32 ((dz (d4 ad m i)).getD Z 0)::f))/\g8 i m ad=(L ad m i).snd.snd)/\(aW (dd (v ad m) y1)<0
  ->gw u1 (g m) ad/\max (h0 u1-g m) 0<h0 u1-m)
 let M:=λ(m:List Ω)(b:Nat)=>((aC (w m)).getD b d0).fst
 let h2:=λ(m:List Ω)(b:Nat)=>((aC (w m)).getD b d0).snd
 let N:=λ(m:List Ω)(b:Nat)=>(h2 m b).fst
 let O:=λ(m:List Ω)(b:Nat)=>(h2 m b).snd
 ia l 0 []/\∀(n:Int)(az:List ao),ia l n az->(n<P l->(0<=n/\n<P l)/\je (l.getD (d n) []) d5 y1 1073741824/\dV l n 0 az/\∀
  (X:Int) (al:List ao),dV l n X al->(X<R l n->(0<=X/\X<R l n)/\d X<(Q l n).length/\eJ (q l n X) y1/\(0<=gn (q l n X)
  y1->T l n X al)/\(gn (q l n X) y1<0->iz al (j al) false/\∀(aw:Int),(iz al aw false->(0<aw->(0<=W (aw-1)/\W (aw-1)<
  j al)/\(W (aw-1)).toNat<c al/\il (q l n X) (al.getD (W (aw-1)).toNat d0)/\f3 aw n X al l)/\(aw<=0->f3 aw n X al l))/\(iz al
  aw true->(0<aw->T l n X al)/\(aw<=0->T l n X al))))/\(R l n<=X->ia l (g n) al/\max (1-g n) 0<1-n))/\(P l<=n->gw l 0 az
  /\∀(X:Int)(al:List ao),gw l X al->(X<j az->iO X al al/\∀(ac:List ao),iO X al ac->(g X<j ac->t X ac/\
  u X ac/\c3 X ac/\e X<c ac/\(dp (v ac X)/\dp (c4 ac X))/\(0<=aW (dd (v ac X) (c4 ac X))->t X ac/\u X ac/\dA (ac.getD
  (d X) d0)/\c3 X ac/\e X<c ac/\dA (ac.getD (e X) d0)/\t X ac/\u X ac/\c3 X ac/\e X<c ac/\iO X al (E ac X)/\W7
  (E ac X)<W7 ac/\∀i,i<c ac->(f6 i X ac=(f7 ac X i).length/\∀(Z:Nat),Z<f6 i X ac->bK (if i=e X then k.enc ((f4 ac
  X).getD Z 0)else f8 i Z X ac) (k.enc ((f7 ac X i).getD Z 0)))/\(if i=e X then decide ((F ac X).fst<0)else g1 i X ac)=decide (c8 ac
  X i<0)/\(g2 i X ac=(dz (c8 ac X i)).length/\∀(Z:Nat),Z<g2 i X ac->bK (if i=e X then SV.int .u32 ((dz (F ac X).fst).getD
  Z 0)::f else g3 i Z X ac) (SV.int .u32 ((dz (c8 ac X i)).getD Z 0)::f))/\(if i=e X then(F ac X).snd else g4 i X ac)=(H ac X
  i).fst.snd/\(if i=e X then decide ((J ac X).fst<0)else g5 i X ac)=decide (d1 ac X i<0)/\(g6 i X ac=(dz (d1 ac X i)).length/\∀(Z
  :Nat),Z<g6 i X ac->bK (if i=e X then SV.int .u32 ((dz (J ac X).fst).getD Z 0)::f else g7 i Z X ac) (SV.int .u32 ((dz (d1
  ac X i)).getD Z 0)::f))/\(if i=e X then(J ac X).snd else g8 i X ac)=(H ac X i).snd.snd)/\(aW (dd (v ac X) (c4 ac X))<0->h1 X
  ac l))/\(j ac<=g X->h1 X ac l))/\(j az<=X->c al=(aC (w l)).length/\∀i,i<c al->(y al i=(M l i).length/\∀(Z:Nat),Z
  <y al i->(r al i Z<0↔(M l i).getD Z 0<0)/\(dz (r al i Z)).length=(dz ((M l i).getD Z 0)).length/\∀(be:Nat),be<(dz (r al i Z)).length
  ->(dz (r al i Z)).getD be 0=(dz ((M l i).getD Z 0)).getD be 0)/\((o al i).fst<0↔(N l i).fst<0)/\(B al i=(dz (N l i).fst).length/\∀(Z:Nat),
  Z<B al i->(dz (o al i).fst).getD Z 0=(dz (N l i).fst).getD Z 0)/\(o al i).snd=(N l i).snd/\((p al i).fst<0↔(O l i).fst<0)/\(D al i=(dz
  (O l i).fst).length/\∀(Z:Nat),Z<D al i->(dz (p al i).fst).getD Z 0=(dz (O l i).fst).getD Z 0)/\(p al i).snd=(O l i).snd)):=by
  conv=>zeta
  unfold qJ at hp;obtain⟨hl,hB⟩:=hp;obtain⟨b1,b2,b3,b4⟩:=Ro hB;obtain⟨k1,k2,k3⟩:=Nv b4;refine⟨by unfold ia;exact .inl ⟨rfl,rfl⟩,λn out ax=>⟨λhn=>?_,λhn=>?_⟩⟩
  . unfold ia at ax;obtain⟨rfl,rfl⟩:=ax.resolve_right (by omega);simp only[Ql,<-zQ];refine⟨⟨by omega,hn⟩,b1,by unfold dV;exact⟨rfl,by omega,by omega,rfl⟩,λj o ax=>?_⟩;unfold dV at ax;obtain⟨_,j1,j2,j3⟩:=ax;have bL:o.length<=2:=by rw[j3];exact Jn (List.length_filter_le _ _) (by rw[Kj];omega)
    refine⟨λhj=>?_,λhj=>?_⟩
    . have bb:j.toNat<(dG (l.getD 0 [])).length:=by omega
      have bf:∀v,v=((dG (l.getD 0 [])).take (j.toNat+1)).filter kV->dV l 0 (j+1) v:=λv hv=>by
       unfold dV;rw[show(j+1).toNat=j.toNat+1 by omega];exact⟨rfl,by omega,by omega,hv⟩
      have bh:=Bn bb;rw[aO (n:=j+1) (by omega) (by omega)];refine⟨⟨j1,hj⟩,bb,b3 _ (uk bb),λhs=>⟨bf _ ?_,by omega⟩,λhs=>?_⟩
      . rw[bh,Y7,j3];simp only[Q3,yd,JH (show¬gn ((dG (l.getD 0 [])).getD j.toNat d0) y1<0 by omega),Jr,JF,List.filter_nil,Kw]
      . have bi:kV ((dG (l.getD 0 [])).getD j.toNat d0)=true:=by rw[yd,JJ hs]
        obtain⟨r,hr⟩:=kept_part bb bi;rw[<-dO,<-j3]at hr;have bp:o++[(dG (l.getD 0 [])).getD j.toNat d0]=((dG (l.getD 0 [])).take (j.toNat+1)).filter kV:=by
         rw[bh,Y7,j3];simp only[Q3,bi,JE,List.filter_nil]
        have bd:=bf _ bp;have bz:=JM List.length hr;simp only[Y0,Jc]at bz;refine⟨by unfold iz;exact⟨rfl,rfl⟩,λbt=>⟨λhc=>?_,λhc=>?_⟩⟩
        . unfold iz at hc;have bv:=hc.1;have ay:∀(i:Nat)(v:ao),i<o.length+1->(o++[v]).getD i d0=if i<o.length then o.getD i d0 else if i-o.length=0 then v else o.getD (i-o.length-1) d0:=λi v hi=>by
           rw[xA hi]
           by_cases h:i<o.length
           . rw[JB h,JB h]
           . rw[JA h,JA h,JB (by omega)]
          refine⟨λh0=>?_,λh0=>?_⟩
          . rw[aO (n:=bt-1) (by omega) (by omega)];have h1:o.length=1:=by omega
            have aD:=(k2 (by omega)).1;rw[hr]at aD;have g0:(o++(dG (l.getD 0 [])).getD j.toNat d0::r).getD 0 d0=o.getD 0 d0:=by rw[xP,JB (by omega)]
            have g1:(o++(dG (l.getD 0 [])).getD j.toNat d0::r).getD 1 d0=(dG (l.getD 0 [])).getD j.toNat d0:=by rw[xP,JA (by omega),h1];rfl
            rw[g0,g1]at aD;refine⟨by omega,by omega,by rw[show(bt-1).toNat=0 by omega];exact aD,by omega,bv,by omega,bd,by omega,λi hi=>?_⟩;exact VF (ay i _ hi)
          . have h1:o.length=0:=by omega
            exact⟨by omega,bv,by omega,bd,by omega,λi hi=>VF (ay i _ hi)⟩
        . unfold iz at hc;exact absurd hc.2 (by simp)
    . unfold ia;rw[aO (n:=0+1) (by omega) (by omega)];refine⟨.inr ⟨rfl,?_⟩,by omega⟩;rw[j3,dO,Jz (by omega)]
  . unfold ia at ax;obtain⟨rfl,ho⟩:=ax.resolve_left (by omega);have ca:=JM List.length ho;refine⟨by unfold gw;exact⟨by omega,by omega,by rw[ho];exact(xN _).symm⟩,λi m hm=>?_⟩;unfold gw at hm;obtain⟨m1,m2,m3⟩:=hm;have cb:m.length=(qK (l.getD 0 [])).length:=by rw[m3,Cz]
    refine⟨λhi=>⟨?_,λaq he=>?_⟩,λhi=>?_⟩
    . unfold iO
      by_cases hc:i=0/\m.length=2
      . have bF:m=qK (l.getD 0 []):=by rw[m3,hc.1];exact xN _
        refine .inr ⟨hc.1,hc.2,hc.2,by unfold vc;rfl,3000,by omega,?_⟩;rw[bF];exact(k2 (by omega)).2
      . exact .inl ⟨hc,rfl⟩
    . unfold iO at he;have eW:=aO (n:=i+1) (by omega) (by omega);rcases he with⟨hc,rfl⟩|⟨rfl,c1,c2,c3,k,hk,c4⟩
      . rw[eW];refine⟨λh=>absurd (show i=0/\aq.length=2 by omega) hc,λh=>?_⟩
        suffices F:aq=pj i.toNat (oD (qK (l.getD 0 [])) i.toNat) by
         have G:=OP m1 (by omega) b4 F;rw[eW]at G;exact G
        rw[<-m3];unfold pj;split
        . unfold yK;rw[JA (by omega)]
        . rfl
      . refine⟨λh=>?_,λh=>by rw[eW]at h;omega⟩;have z1:((0:Int)+1).toNat=1:=rfl;have hg:=zd c4;have z0:(0:Int).toNat=0:=rfl;rw[eW,z1,z0];unfold zK at hg;refine⟨by omega,by omega,by omega,by omega,⟨(zj hg.1).2,(zj hg.2).1⟩,λhs=>?_,λhs=>?_⟩
        . have hd:jR (aq.getD 0 d0,aq.getD 1 d0)=false:=by rw[FO,JH (show¬_ by exact Int.not_lt.2 hs)]
          obtain⟨⟨j,hj,s1⟩,s2,s3⟩:=IA c4 hk hd;have eS:ke (aq.getD 0 d0,aq.getD 1 d0)=(ai (aq.getD 0 d0),ai (aq.getD 1 d0)):=by unfold ke;rfl
          rw[eS]at s1 s2 s3;have ay:∀i,i<aq.length->((aq.set 0 (ai (aq.getD 0 d0))).set 1 (ai (aq.getD 1 d0))).getD i d0=if i=1 then ai (aq.getD 1 d0)else if i=0 then ai (aq.getD 0 d0)else aq.getD i d0:=λi hi=>by
           rw[bo (by rw[Ks];omega),bo hi]
          have g0:=ay 0 (by omega);have g1:=ay 1 (by omega);rw[JA (by omega),JB rfl]at g0;rw[JB rfl]at g1;refine⟨by omega,by omega,hg.1,by omega,by omega,hg.2,by omega,by omega,by omega,by omega,?_,?_,λi hi=>VF (ay i hi)⟩
          . unfold iO;refine .inr ⟨rfl,c1,by rw[Ks,Ks];exact c2,?_,j,by omega,?_⟩
            . rw[g0,g1,<-c3,<-s2]
            . rw[g0,g1];exact s1
          . unfold W7;rw[g0,g1];exact s3
        . have hd:jR (aq.getD 0 d0,aq.getD 1 d0)=true:=by rw[FO,JJ hs]
          rw[Ic hd]at c3
          suffices F:aq=pj (0:Int).toNat (oD (qK (l.getD 0 [])) (0:Int).toNat) by
           have G:=OP (by omega) (by omega) b4 F;rw[eW,z0]at G;exact G
          rw[z0,<-show m=oD (qK (l.getD 0 [])) 0 from m3];unfold pj;rw[JB rfl];unfold yK;rw[JB c1,<-c3];exact WC c2
    . have hb:m=aC (l.getD 0 []):=by rw[m3,uS];congr 1;omega
      rw[hb];exact⟨rfl,λi hi=>⟨⟨rfl,λj hj=>⟨J9,rfl,λ_ _=>rfl⟩⟩,J9,⟨rfl,λ_ _=>rfl⟩,rfl,J9,⟨rfl,λ_ _=>rfl⟩,rfl⟩⟩
theorem k353:aH prog Wi:=av k354 hm func353 (by kernel_rfl) (by kernel_rfl) sQ.ok (by kernel_rfl) (λa=>XI a) λa b=>by
 have h:SU a:=by
  rw[<-Mz];(conv=>zeta);simp only[aA]
  try dsimp only at b
  simp[-List.getD_eq_getElem?_getD,Rv,Nj,Vv,setN1,ZQ];exact g353 b
 exact h
end Go.Proofs.Big
