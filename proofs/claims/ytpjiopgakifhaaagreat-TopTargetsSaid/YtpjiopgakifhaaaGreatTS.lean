import Derived.Test.YtpjiopgakifhaaaGreatTJ
import Derived.Test.YtpjiopgakifhaaaGreatTR
set_option linter.unusedSectionVars false
set_option linter.unusedSimpArgs false
set_option linter.unusedVariables false
set_option maxRecDepth 100000
namespace Go.Proofs.Big
open Go Go.Sx Go.Proofs
variable [bW]
set_option maxHeartbeats 4000000
attribute [local irreducible] lm nv tl dg dz
def y0 :Int×Int:=(0,0)
def y1 :Int×Int:=(1,0)
def d0 :ao:=([],(0,0),(0,0))
section
variable {α : Type} (D : α -> Bool) (S : α -> α) (G : α -> Prop)
def xp :Nat->α->α
 |0,a=>a
 |k+1,a=>if D a then a else xp k (S a)
def QK :Nat->α->Nat
 |0,_=>0
 |k+1,a=>if D a then 0 else 1+QK k (S a)
def po :Nat->α->Prop
 |0,_=>False
 |k+1,a=>G a/\(D a=true\/po k (S a))
variable {D S G}
theorem wP : ∀{k m:Nat} {a:α},po D S G k a->k<=m->xp D S m a=xp D S k a/\QK D S m a=QK D S k a
 |0,_,_,h,_=>h.elim
 |k+1,0,_,_,h=>by omega
 |k+1,m+1,a,h,hk=>by
  simp only [xp,QK];cases hd:D a with
  |true=>exact⟨rfl,rfl⟩
  |false=>
   obtain⟨_,h2⟩:=h;rw [hd]at h2;obtain⟨e1,e2⟩:=wP (h2.resolve_left (by simp)) (show k<=m by omega);simp only [Jr,if_false];exact⟨e1,by rw [e2]⟩
theorem IA {k m:Nat} {a:α} (h:po D S G k a) (hk:k<=m) (hd:D a=false):(∃j,j<k/\po D S G j (S a))/\xp D S m (S a)=xp D S m a/\QK D S m (S a)<QK D S m a:=by
 cases k with
 |zero=>exact h.elim
 |succ j=>
  cases m with
  |zero=>omega
  |succ n=>
   obtain⟨_,h2⟩:=h;rw [hd]at h2;have h2:=h2.resolve_left (by simp);obtain⟨e1,e2⟩:=wP h2 (show j<=n by omega);obtain⟨e3,e4⟩:=wP h2 (show j<=n+1 by omega);refine⟨⟨j,by omega,h2⟩,?_,?_⟩
   . rw [e3];simp only [xp,hd,Jr,if_false];exact e1.symm
   . rw [e4];simp only [QK,hd,Jr,if_false];omega
theorem Ic {m:Nat} {a:α} (hd:D a=true):xp D S m a=a:=by
 cases m with
 |zero=>rfl
 |succ n=>simp [xp,hd]
theorem zd {k:Nat} {a:α} (h:po D S G k a):G a:=by
 cases k with
 |zero=>exact h.elim
 |succ k=>exact h.1
end
def rwN (l:List ao):List ao:=ah ei l.length fun i=>ei.enc (l.getD i d0)
def nn (a:ao):ao:=(eR a.1,yy a.2.1,zz a.2.2.1,a.2.2.2)
def nc (a:ao):List SV:=[SV.aI ((0:Nat)+(1:Nat)+(1:Nat)) a.1.length fun i=>aj.enc (a.1.getD i (0:Int)),SV.bool (decide (a.2.1.1<(0:Int))),SV.aI ((0:Nat)+(1:Nat)) (dz a.2.1.1).length fun i=>(aF IntKind.u32).enc ((dz a.2.1.1).getD i (0:Int)),SV.int IntKind.i64 a.2.1.2,SV.bool (decide (a.2.2.1<(0:Int))),SV.aI ((0:Nat)+(1:Nat)) (dz a.2.2.1).length fun i=>(aF IntKind.u32).enc ((dz a.2.2.1).getD i (0:Int)),SV.int IntKind.i64 a.2.2.2]
def jR (s:ao×ao):Bool:=decide (aW (dd s.1.2.2 s.2.2.1)<0)
def ke (s:ao×ao):ao×ao:=(ai s.1,ai s.2)
def zK (s:ao×ao):Prop:=dA s.1/\dA s.2
def gA (a:ao):Bool:=decide (aW (dd a.2.2 y1)<0)
def vc (s:ao×ao):ao×ao:=xp jR ke 3000 s
def pH (a:ao):ao:=xp gA ai 3000 a
def dG (p:List Int):List ao:=bR p y0 y1
def kV (a:ao):Bool:=decide (gn a y1<0)
def ec (p:List Int):List ao:=(dG p).filter kV
def yK (l:List ao):List ao:=if l.length=2 then [(vc (l.getD 0 d0,l.getD 1 d0)).1,(vc (l.getD 0 d0,l.getD 1 d0)).2]else l
def pj (i:Nat) (l:List ao):List ao:=if i=0 then yK l else l
def oD (l:List ao):Nat->List ao
 |0=>l
 |k+1=>(pj k (oD l k)).set k (pH ((pj k (oD l k)).getD k d0))
def aC (p:List Int):List ao:=oD (ec p) (ec p).length
def C1 (a:ao):Prop:=po gA ai dA 3000 a
def Lo (l:List ao):Prop:=l.length<=2/\(l.length=2->il (l.getD 1 d0) (l.getD 0 d0)/\po jR ke zK 3000 (l.getD 0 d0,l.getD 1 d0))/\ ∀i,i<l.length->C1 ((pj i (oD l i)).getD i d0)
def okB (p:List Int):Prop:=je p y0 y1 1073741824/\(dG p).length<=2/\(∀a∈dG p,eJ a y1)/\Lo (ec p)
def qJ (l:List (List Int)):Prop:=l.length=1/\okB (l.getD 0 [])
def ia (l:List (List Int)) (i:Int) (out:List ao):Prop:=(i=0/\out=[])\/(i=1/\out=ec (l.getD 0 []))
def dV (l:List (List Int)) (i j:Int) (out:List ao):Prop:=i=0/\0<=j/\j<=(dG (l.getD 0 [])).length/\out=((dG (l.getD 0 [])).take j.toNat).filter kV
def iz (out:List ao) (at':Int) (same:Bool):Prop:=at'=out.length/\same=false
def gw (l:List (List Int)) (i:Int) (out:List ao):Prop:=0<=i/\i<=(ec (l.getD 0 [])).length/\out=oD (ec (l.getD 0 [])) i.toNat
def iO (i:Int) (out0 out:List ao):Prop:=(¬(i=0/\out0.length=2)/\out=out0)\/(i=0/\out0.length=2/\out.length=2/\xp jR ke 3000 (out.getD 0 d0,out.getD 1 d0)=vc (out0.getD 0 d0,out0.getD 1 d0)/\ ∃k,k<=3000/\po jR ke zK k (out.getD 0 d0,out.getD 1 d0))
def cT (i:Int) (m out:List ao):Prop:=out=m.set i.toNat (out.getD i.toNat d0)/\xp gA ai 3000 (out.getD i.toNat d0)=pH (m.getD i.toNat d0)/\ ∃k,k<=3000/\po gA ai dA k (out.getD i.toNat d0)
def W7 (l:List ao):Nat:=QK jR ke 3000 (l.getD 0 d0,l.getD 1 d0)
def mu5 (i:Int) (l:List ao):Nat:=QK gA ai 3000 (l.getD i.toNat d0)
attribute [irreducible] jR ke zK gA vc pH dG kV ec yK pj oD aC C1 Lo okB qJ ia dV iz gw iO cT W7 mu5
def c354 :bB:=fl iR.nil.dec (fun a=>a=a) (fun a=>yS y1)
def UR :List (Nat×bB):=(354,c354)::T211
def SF (u:Unit):Prop:=fQ T211 Tryz.f354 [] [] (yS y1)
def c353 :bB:=fl sQ.dec (fun a=>qJ a) (fun a=>(zN ei).enc (aC (a.getD 0 [])))
def Wi :List (Nat×bB):=(353,c353)::UR
def XI (l:List (List Int)):List kM:=[⟨.unit, .list [.int .i64 (.tm 16), .ah ei 0 300 [.tm 3]],fun _ (x:Int×List ao)=>ia l x.1 x.2,fun _ (x:Int×List ao)=>(1-x.1).toNat⟩,⟨.int .i64 (.tm 16), .list [.int .i64 (.tm 29), .ah ei 0 300 [.tm 3]],fun(i:Int) (x:Int×List ao)=>dV l i x.1 x.2,fun(i:Int) (x:Int×List ao)=>((dG (l.getD 0 [])).length-x.1).toNat⟩,⟨.ah ei 0 300 [.tm 3], .list [.int .i64 (.tm 10), .bool (.tm 11)],fun(y:List ao) (x:Int×Bool)=>iz y x.1 x.2,fun(y:List ao) (x:Int×Bool)=>0⟩,⟨.unit, .list [.int .i64 (.tm 74), .ah ei 0 300 [.tm 3]],fun _ (x:Int×List ao)=>gw l x.1 x.2,fun _ (x:Int×List ao)=>((ec (l.getD 0 [])).length-x.1).toNat⟩,⟨.list [.int .i64 (.tm 74), .ah ei 0 300 [.tm 3]], .ah ei 0 300 [.tm 3],fun(y:Int×List ao) (x:List ao)=>iO y.1 y.2 x,fun(y:Int×List ao) (x:List ao)=>W7 x⟩,⟨.list [.int .i64 (.tm 74), .ah ei 0 300 [.tm 3]], .ah ei 0 300 [.tm 3],fun(y:Int×List ao) (x:List ao)=>cT y.1 y.2 x,fun(y:Int×List ao) (x:List ao)=>mu5 y.1 x⟩]
def SU (l:List (List Int)):Prop:=fQ UR Tryz.f353 (XI l) [qS l] ((zN ei).enc (aC (l.getD 0 [])))
theorem LH (u:Unit):(True/\True/\(True/\fN (1:Int))/\True/\True/\(false=decide (y1.fst<(0:Int))/\((1:Nat)=(dz y1.fst).length/\ ∀(i:Nat),i<(1:Nat)->[(1
 :Int)].getD i (0:Int)=(dz y1.fst).getD i (0:Int)/\True)/\(0:Int)=y1.snd/\True)/\True)=SF u:=by kernel_rfl
theorem Mz (l:List (List Int)):(
 let p:=sm 0
 let d7:=fun(x:List (List Int))=>x.length
 let o3:=fun(x:List (List Int)) (m:Nat)=>(x.getD m []).length
 let c4:=fun(x:List (List Int))=>d7 x=d7 x/\ ∀(i:Nat),i<d7 x->(sm (o3 x i)/\ ∀(i_1:Nat),i_1<o3 x i->pW ((x.getD i []).getD i_1 0))/\True
 let c5:=fun(x:List (List Int))=>(↑(d7 x):Int)
 let c6:=fun(x:List (List Int))=>c5 x=c5 x
 let h0:=sm (0:Int)
 let o4:=ab 116 True
 let w:=ei
 let h1:=w.n
 let h2:=h1=h1
 let d8:=True/\()=()
 let d9:=fun(x:List (List Int)) (m:Int)=>x.getD m.toNat []
 let t:=true=true
 let e:=aj
 let u:=cR
 let o5:=SV.int IntKind.i64 0
 let h3:=u.ak (yc y1)
 let o6:=((0:Int),(0:Int))
 let N:=yy y1
 let d:=fun(x:List ao)=>rwN x
 let c:=fun(x:List ao)=>x.length
 let o7:=fun(x:List ao)=>c x=(d x).length
 let J:=fun(x:List ao)=>p/\o7 x
 let e0:=fun(x:List (List Int)) (m:Int)=>bR (eR (d9 x m)) o6 N
 let c7:=fun(x:List (List Int)) (m:Int)=>(e0 x m).length
 let h4:=fun(x:List (List Int)) (m:Int)=>p/\sm (c7 x m)
 let c8:=fun(x:List (List Int)) (m:Int)=>(↑(c7 x m):Int)
 let h5:=fun(x:List (List Int)) (m:Int)=>c8 x m=c8 x m
 let h6:=ab 103 True
 let o8:=([]:List (Option (Nat×Nat)))
 let y:=o8=o8
 let o9:=fun(x:List ao) (m:Nat)=>(x.getD m d0).fst
 let O:=fun(x:List ao) (m:Nat)=>(o9 x m).length
 let e1:=fun(x:List ao) (m:Nat)=>((d x).getD m d0).fst
 let K:=fun(x:List ao) (m s:Nat)=>(o9 x m).getD s 0
 let p0:=fun(x:List ao) (m:Nat)=>(x.getD m d0).snd
 let e2:=fun(x:List ao) (m:Nat)=>(p0 x m).fst
 let e3:=fun(x:List ao) (m:Nat)=>decide ((e2 x m).fst<0)
 let p1:=fun(x:List ao) (m:Nat)=>((d x).getD m d0).snd
 let e4:=fun(x:List ao) (m:Nat)=>(p1 x m).fst
 let P:=fun(x:List ao) (m:Nat)=>(dz (e2 x m).fst).length
 let e5:=fun(x:List ao) (m s:Nat)=>(dz (e2 x m).fst).getD s 0
 let e6:=fun(x:List ao) (m:Nat)=>(e2 x m).snd
 let e7:=fun(x:List ao) (m:Nat)=>(p0 x m).snd
 let e8:=fun(x:List ao) (m:Nat)=>decide ((e7 x m).fst<0)
 let e9:=fun(x:List ao) (m:Nat)=>(p1 x m).snd
 let Q:=fun(x:List ao) (m:Nat)=>(dz (e7 x m).fst).length
 let f0:=fun(x:List ao) (m s:Nat)=>(dz (e7 x m).fst).getD s 0
 let f1:=fun(x:List ao) (m:Nat)=>(e7 x m).snd
 let p2:=fun(x:List ao)=>(o7 x/\h2/\ ∀(i:Nat),i<c x->(O x i=(e1 x i).length/\ ∀(i_1:Nat),i_1<O x i->decide (K x i i_1<0)=decide ((e1
  x i).getD i_1 0<0)/\((dz (K x i i_1)).length=(dz ((e1 x i).getD i_1 0)).length/\ ∀(i_2:Nat),i_2<(dz (K x i i_1)).length->(dz (K x i i_1)).getD i_2 0
  =(dz ((e1 x i).getD i_1 0)).getD i_2 0/\True)/\True)/\e3 x i=decide ((e4 x i).fst<0)/\(P x i=(dz (e4 x i).fst).length/\ ∀(i_1:Nat),i_1<P x i->e5
  x i i_1=(dz (e4 x i).fst).getD i_1 0/\True)/\e6 x i=(e4 x i).snd/\e8 x i=decide ((e9 x i).fst<0)/\(Q x i=(dz (e9 x i).fst).length/\ ∀(i_1:Nat),
  i_1<Q x i->f0 x i i_1=(dz (e9 x i).fst).getD i_1 0/\True)/\f1 x i=(e9 x i).snd/\True)/\True
 let h7:=fun(x:List (List Int)) (m:Int) (s:Nat)=>((e0 x m).getD s d0).fst
 let f2:=fun(x:List (List Int)) (m:Int) (s:Nat)=>((e0 x m).getD s d0).snd
 let f3:=fun(x:List (List Int)) (m:Int) (s:Nat)=>(f2 x m s).fst.fst
 let f4:=fun(x:List (List Int)) (m:Int) (s:Nat)=>(f2 x m s).snd.fst
 let h8:=fun(x:List (List Int)) (m:Int)=>(sm (c7 x m)/\sm 7/\ ∀(i:Nat),i<c7 x m->(sm (h7 x m i).length/\ ∀(i_1:Nat),i_1<(h7 x m i).length->
  pW ((h7 x m i).getD i_1 0))/\sm (decide (f3 x m i<0))/\(sm (dz (f3 x m i)).length/\ ∀(i_1:Nat),i_1<(dz (f3 x m i)).length->sm ((dz (f3 x m i)).getD i_1
  0)/\True)/\sm (f2 x m i).fst.snd/\sm (decide (f4 x m i<0))/\(sm (dz (f4 x m i)).length/\ ∀(i_1:Nat),i_1<(dz (f4 x m i)).length->sm ((dz (f4 x m i)).getD
  i_1 0)/\True)/\sm (f2 x m i).snd.snd/\True)/\True
 let p3:=fun(x:List ao) (m:List (List Int)) (s:Int)=>y/\p2 x/\y/\h8 m s/\True
 let B:=fun(x:Int)=>0+x.toNat
 let R:=fun(x:List (List Int)) (m s:Int)=>(e0 x m).getD (B s) d0
 let L:=fun(x:List (List Int)) (m s:Int)=>(R x m s).fst
 let p4:=fun(x:List (List Int)) (m s:Int)=>(R x m s).snd
 let C:=fun(x:List (List Int)) (m s:Int)=>(p4 x m s).fst
 let D:=fun(x:List (List Int)) (m s:Int)=>(p4 x m s).snd
 let p5:=fun(x:List (List Int)) (m s:Int)=>(∀(i:Nat),i<(L x m s).length->t/\e.ak (e.enc ((L x m s).getD i 0)))/\u.ak (yc (C x m s))/\u.ak
  (yc (D x m s))
 let E:=ru true
 let p6:=fun(x:List (List Int)) (m s:Int)=>decide (gn (nn (R x m s)) N>=0)
 let g:=fun(x:Int)=>W (x+1)
 let c9:=fun(x:List (List Int))=>x.getD 0 []
 let p7:=fun(x:List (List Int))=>(↑(dG (c9 x)).length:Int)
 let p8:=fun(x:List (List Int)) (m:Int)=>(p7 x-g m).toNat<(p7 x-m).toNat
 let f5:=fun(x:Int)=>sm (g x)
 let p9:=fun(x:List (List Int)) (m s:Int)=>ab 10 (c4 x/\c6 x/\m=m/\ab 10 (h4 x m/\h5 x m/\f5 s/\h6))
 let h9:=fun(x:List (List Int)) (m s:Int) (x1:List ao)=>True/\dV x m (g s) (d x1)/\p8 x s/\ab 3 (J x1/\p9 x m s)/\p3 x1 x m
 let h:=fun(x:List ao)=>(↑(c x):Int)
 let f6:=fun(x:List ao)=>p/\sm (c x)
 let d1:=fun(x:List ao)=>h x=h x
 let q0:=fun(x:List (List Int)) (m s:Int)=>ab 2 (c4 x/\c6 x/\m=m/\ab 10 (h4 x m/\h5 x m/\s=s/\h6))
 let T:=([]:List ar)
 let q1:=ar.s SV.aq::T
 let q2:=ar.s SV.ff::T++(q1++T)++(ar.s o5::T++T)
 let q3:=List.map ar.shape (q1++(q2++(q2++T)))
 let j0:=fun(x:List (List Int)) (m s:Int)=>(dz (C x m s).fst).length
 let j1:=fun(x:List (List Int)) (m s:Int)=>(dz (D x m s).fst).length
 let q4:=fun(x:List ao) (m:List (List Int)) (s x1:Int)=>y/\((sm (c x)/\h2/\ ∀(i:Nat),i<c x->(sm (O x i)/\ ∀(i_1:Nat),i_1<O x i->pW (K
  x i i_1))/\sm (e3 x i)/\(sm (P x i)/\ ∀(i_1:Nat),i_1<P x i->sm (e5 x i i_1)/\True)/\sm (e6 x i)/\sm (e8 x i)/\(sm (Q x i)/\ ∀(i_1:Nat),i_1<Q x
  i->sm (f0 x i i_1)/\True)/\sm (f1 x i)/\True)/\True)/\y/\h8 m s/\q3=q3/\((sm (L m s x1).length/\ ∀(i:Nat),i<(L m s x1).length->pW ((L m s x1).getD
  i 0))/\sm (decide ((C m s x1).fst<0))/\(sm (j0 m s x1)/\ ∀(i:Nat),i<j0 m s x1->sm ((dz (C m s x1).fst).getD i 0)/\True)/\sm (C m s x1).snd/\sm (decide
  ((D m s x1).fst<0))/\(sm (j1 m s x1)/\ ∀(i:Nat),i<j1 m s x1->sm ((dz (D m s x1).fst).getD i 0)/\True)/\sm (D m s x1).snd/\True)/\True
 let q5:=fun(x:Int)=>decide (x>0)
 let c0:=fun(x:Int)=>W (x-1)
 let j2:=fun(x:List ao) (m:Int)=>x.getD (0+(c0 m).toNat) d0
 let q6:=fun(x:List ao) (m:Int)=>(j2 x m).fst
 let q7:=fun(x:List ao) (m:Int)=>(j2 x m).snd
 let M:=fun(x:List ao)=>c x+1
 let k:=fun(x:Nat) (m:List ao)=>decide (x<c m)
 let f7:=fun(x:List ao) (m:Nat)=>w.enc (x.getD m d0)
 let j3:=fun(x:Nat) (m:List ao)=>0+(x-c m)
 let q:=fun(x:Nat) (m:List ao)=>decide (j3 x m<1)
 let j4:=fun(x:List ao) (m:Nat)=>x.getD (j3 m x-1) d0
 let f8:=fun(m:List ao) (s:List (List Int)) (x1 v1:Int)=>ah w (M m) fun j=>af (k j m) (f7 m j) ((fun(j:Nat)=>af (decide (j<1)) ((if
  1=1 then fun x=>nc ((bR (eR (s.getD x1.toNat [])) (0,0) (yy y1)).getD (0+v1.toNat) d0)else fun i'=>af (decide (i'=0)) (nc ((bR (eR (s.getD
  x1.toNat [])) (0,0) (yy y1)).getD (0+v1.toNat) d0)) ((fun(x:List SV)=>SV.aq::x) [SV.ff,SV.aq,SV.int IntKind.i64 0,SV.ff,SV.aq,SV.int IntKind.i64
  0])) j) (ei.enc (m.getD (j-1) d0))) (j3 j m))
 let j5:=7=h1
 let q8:=fun(x:List ao) (m:Nat)=>(j4 x m).fst
 let q9:=fun(x:Nat) (m:List ao) (s:List (List Int)) (x1 y1:Int)=>if k x m=true then O m x else if q x m=true then(L s x1 y1).length else(q8 m
  x).length
 let r0:=fun(x:List ao) (m:List (List Int)) (s x1:Int) (y1:Nat)=>((f8 x m s x1).getD y1 d0).fst
 let r1:=fun(x:List ao) (m:Nat)=>(j4 x m).snd
 let f9:=fun(x:List ao) (m:Nat)=>(r1 x m).fst
 let c1:=fun(x:List ao) (m:List (List Int)) (s x1:Int) (y1:Nat)=>((f8 x m s x1).getD y1 d0).snd
 let r2:=fun(x:Nat) (m:List ao) (s:List (List Int)) (x1 y1:Int)=>if k x m=true then P m x else if q x m=true then j0 s x1 y1 else(dz (f9 m x).fst).length
 let r3:=fun(x:List ao) (m:List (List Int)) (s x1:Int) (y1:Nat)=>dz (c1 x m s x1 y1).fst.fst
 let f:=aF IntKind.u32
 let g0:=fun(x:List ao) (m:Nat)=>(r1 x m).snd
 let r4:=fun(x:Nat) (m:List ao) (s:List (List Int)) (x1 y1:Int)=>if k x m=true then Q m x else if q x m=true then j1 s x1 y1 else(dz (g0 m x).fst).length
 let r5:=fun(x:List ao) (m:List (List Int)) (s x1:Int) (y1:Nat)=>dz (c1 x m s x1 y1).snd.fst
 let r6:=fun(x m s:Int) (x1:List ao) (y1:List (List Int))=>(0<=x/\x<=h x1)/\x=h x1/\(∀(j:Nat),j<0->t)/\(p/\sm 1/\1<=140737488355328
  /\104<=140737488355328)/\1<=1/\(∀(j:Nat),j<1->t)/\(p/\x.toNat=c x1/\M x1<=140737488355328/\M x1*104<=140737488355328)/\E/\True/\dV y1
  m (g s) (ah w (M x1) fun j=>af (k j x1) (f7 x1 j) (af (q j x1) (nc (R y1 m s)) (w.enc (j4 x1 j))))/\p8 y1 s/\ab 3 ((p/\M x1=(f8 x1 y1 m s).length)
  /\p9 y1 m s)/\y/\((M x1=(f8 x1 y1 m s).length/\j5/\ ∀(i:Nat),i<M x1->(q9 i x1 y1 m s=(r0 x1 y1 m s i).length/\ ∀(i_1:Nat),i_1<q9 i x1 y1 m s
  ->bK (if k i x1=true then e.enc (K x1 i i_1)else if q i x1=true then e.enc ((L y1 m s).getD i_1 0)else e.enc ((q8 x1 i).getD i_1 0)) (e.enc ((r0 x1 y1 m
  s i).getD i_1 0)))/\(if k i x1=true then e3 x1 i else if q i x1=true then decide ((C y1 m s).fst<0)else decide ((f9 x1 i).fst<0))=decide ((c1 x1 y1 m
  s i).fst.fst<0)/\(r2 i x1 y1 m s=(r3 x1 y1 m s i).length/\ ∀(i_1:Nat),i_1<r2 i x1 y1 m s->bK (if k i x1=true then f.enc (e5 x1 i i_1)else if q i
  x1=true then f.enc ((dz (C y1 m s).fst).getD i_1 0)else f.enc ((dz (f9 x1 i).fst).getD i_1 0)) (f.enc ((r3 x1 y1 m s i).getD i_1 0)))/\(if k i x1=true then
  e6 x1 i else if q i x1=true then(C y1 m s).snd else(f9 x1 i).snd)=(c1 x1 y1 m s i).fst.snd/\(if k i x1=true then e8 x1 i else if q i x1=true then decide
  ((D y1 m s).fst<0)else decide ((g0 x1 i).fst<0))=decide ((c1 x1 y1 m s i).snd.fst<0)/\(r4 i x1 y1 m s=(r5 x1 y1 m s i).length/\ ∀(i_1:Nat),i_1<
  r4 i x1 y1 m s->bK (if k i x1=true then f.enc (f0 x1 i i_1)else if q i x1=true then f.enc ((dz (D y1 m s).fst).getD i_1 0)else f.enc ((dz (g0 x1 i).fst).getD
  i_1 0)) (f.enc ((r5 x1 y1 m s i).getD i_1 0)))/\(if k i x1=true then f1 x1 i else if q i x1=true then(D y1 m s).snd else(g0 x1 i).snd)=(c1 x1 y1 m s i).snd.snd
  /\True)/\True)/\y/\h8 y1 m/\True
 let r7:=1==0
 let r8:=fun(x:Bool) (m s x1:Int) (y1:List ao) (v1:List (List Int))=>((!x)=true->r6 m s x1 y1 v1)/\((!x)=false->h9 v1 s x1 y1)
 let d2:=fun(x:List ao)=>y/\p2 x/\True
 let j6:=ab 58 True
 let j7:=fun(x:Int) (m:List ao)=>ab 9 (x=x/\ab 59 (d1 m/\x=x/\j6))
 let r9:=fun(x m:List ao) (s:Int)=>ab 3 (J x/\j7 s m)/\d2 x
 let z:=fun(x:Int) (m:List ao)=>0<=x/\x<h m
 let A:=fun(x:Int) (m:List ao)=>B x<c m
 let j8:=fun(x:Int) (m:List ao)=>0<=g x/\g x<h m
 let F:=fun(x:Int)=>0+(g x).toNat
 let d3:=fun(x:List ao) (m:Int)=>x.getD (B m) d0
 let s0:=fun(x:List ao) (m:Int)=>(d3 x m).snd
 let v:=fun(x:List ao) (m:Int)=>(s0 x m).snd
 let j9:=fun(x:List ao) (m:Int)=>u.ak (yc (v x m))
 let d4:=fun(x:List ao) (m:Int)=>x.getD (F m) d0
 let s1:=fun(x:List ao) (m:Int)=>(d4 x m).snd
 let G:=fun(x:List ao) (m:Int)=>(s1 x m).fst
 let s2:=fun(x:List ao) (m:Int)=>u.ak (yc (G x m))
 let s3:=fun(x:List ao) (m:Int)=>aW (dd (yy (v x m)) (yy (G x m)))
 let k0:=fun(x:List ao) (m:Int)=>decide (s3 x m>=0)
 let s4:=fun(x:List ao) (m:Int)=>(d3 x m).fst
 let k1:=fun(x:List ao) (m:Int)=>((∀(i:Nat),i<(s4 x m).length->t/\e.ak (e.enc ((s4 x m).getD i 0)))/\u.ak (yc (s0 x m).fst)/\j9 x m)/\dA
  (nn (d3 x m))
 let s5:=fun(x:List ao) (m:Int)=>(d4 x m).fst
 let r:=fun(x:Nat) (m:Int)=>decide (x=F m)
 let k2:=fun(x:List ao) (m:Int)=>ai (nn (d3 x m))
 let k3:=fun(x:List ao) (m:Int)=>cE (w.enc (d3 x m)) 0 (nc (k2 x m))
 let k4:=fun(x:List ao) (m:Int)=>ai (nn (d4 x m))
 let o:=fun(x:Nat) (m:Int)=>decide (x=B m)
 let c2:=fun(x:List ao) (m:Int)=>ah w (c x) fun i'=>af (r i' m) (cE (af (decide (F m=B m)) (k3 x m) (w.enc (d4 x m))) 0 (nc (k4 x m))) (af
  (o i' m) (k3 x m) (f7 x i'))
 let s6:=fun(x:List ao) (m:Int)=>(k4 x m).fst
 let s7:=fun(x:List ao) (m:Int)=>(k2 x m).fst
 let k5:=fun(x:Nat) (m:Int) (s:List ao)=>if o x m=true then(s7 s m).length else O s x
 let s8:=fun(x:Nat) (m:Int) (s:List ao)=>if r x m=true then(s6 s m).length else k5 x m s
 let s9:=fun(x:List ao) (m:Int) (s:Nat)=>((c2 x m).getD s d0).fst
 let t0:=fun(x m:Nat) (s:Int) (x1:List ao)=>if o x s=true then e.enc ((s7 x1 s).getD m 0)else e.enc (K x1 x m)
 let t1:=fun(x:List ao) (m:Int)=>(k4 x m).snd
 let g1:=fun(x:List ao) (m:Int)=>(t1 x m).fst
 let t2:=fun(x:List ao) (m:Int)=>(k2 x m).snd
 let g2:=fun(x:List ao) (m:Int)=>(t2 x m).fst
 let t3:=fun(x:Nat) (m:Int) (s:List ao)=>if o x m=true then decide ((g2 s m).fst<0)else e3 s x
 let g3:=fun(x:List ao) (m:Int) (s:Nat)=>((c2 x m).getD s d0).snd
 let k6:=fun(x:List ao) (m:Int) (s:Nat)=>(g3 x m s).fst.fst
 let k7:=fun(x:Nat) (m:Int) (s:List ao)=>if o x m=true then(dz (g2 s m).fst).length else P s x
 let t4:=fun(x:Nat) (m:Int) (s:List ao)=>if r x m=true then(dz (g1 s m).fst).length else k7 x m s
 let t5:=fun(x m:Nat) (s:Int) (x1:List ao)=>if o x s=true then f.enc ((dz (g2 x1 s).fst).getD m 0)else f.enc (e5 x1 x m)
 let t6:=fun(x:Nat) (m:Int) (s:List ao)=>if o x m=true then(g2 s m).snd else e6 s x
 let g4:=fun(x:List ao) (m:Int)=>(t1 x m).snd
 let g5:=fun(x:List ao) (m:Int)=>(t2 x m).snd
 let t7:=fun(x:Nat) (m:Int) (s:List ao)=>if o x m=true then decide ((g5 s m).fst<0)else e8 s x
 let k8:=fun(x:List ao) (m:Int) (s:Nat)=>(g3 x m s).snd.fst
 let k9:=fun(x:Nat) (m:Int) (s:List ao)=>if o x m=true then(dz (g5 s m).fst).length else Q s x
 let t8:=fun(x:Nat) (m:Int) (s:List ao)=>if r x m=true then(dz (g4 s m).fst).length else k9 x m s
 let t9:=fun(x m:Nat) (s:Int) (x1:List ao)=>if o x s=true then f.enc ((dz (g5 x1 s).fst).getD m 0)else f.enc (f0 x1 x m)
 let u0:=fun(x:Nat) (m:Int) (s:List ao)=>if o x m=true then(g5 s m).snd else f1 s x
 let u1:=fun(x:Int) (m s:List ao)=>ab 9 (x=x/\ab 59 (d1 m/\x=x/\ab 8 (f6 s/\x=x/\sm (B x)/\sm (B x)/\(sm (decide ((v s x).fst<0))/\(sm
  (dz (v s x).fst).length/\ ∀(i:Nat),i<(dz (v s x).fst).length->sm ((dz (v s x).fst).getD i 0)/\True)/\sm (v s x).snd/\True)/\f6 s/\x=x/\f5 x/\sm (F
  x)/\sm (F x)/\(sm (decide ((G s x).fst<0))/\(sm (dz (G s x).fst).length/\ ∀(i:Nat),i<(dz (G s x).fst).length->sm ((dz (G s x).fst).getD i 0)/\True)
  /\sm (G s x).snd/\True)/\sm (s3 s x)/\sm (k0 s x)/\ab 37 True)))
 let u2:=fun(x:List ao) (m:Int)=>(j9 x m/\h3)/\dp (yy (v x m))/\dp N
 let o0:=fun(x:List ao) (m:Int)=>decide (aW (dd (yy (v x m)) N)>=0)
 let H:=fun(x:List ao) (m:Int)=>ah w (c x) fun i'=>af (o i' m) (k3 x m) (f7 x i')
 let u3:=fun(x:List ao) (m:Int)=>p/\c x=(H x m).length
 let u4:=fun(x:List ao) (m:Int) (s:Nat)=>((H x m).getD s d0).fst
 let g6:=fun(x:List ao) (m:Int) (s:Nat)=>((H x m).getD s d0).snd
 let o1:=fun(x:List ao) (m:Int) (s:Nat)=>(g6 x m s).fst.fst
 let o2:=fun(x:List ao) (m:Int) (s:Nat)=>(g6 x m s).snd.fst
 let u5:=fun(x:List ao) (m:Int)=>y/\((c x=(H x m).length/\j5/\ ∀(i:Nat),i<c x->(k5 i m x=(u4 x m i).length/\ ∀(i_1:Nat),i_1<k5 i m x
  ->bK (t0 i i_1 m x) (e.enc ((u4 x m i).getD i_1 0)))/\t3 i m x=decide (o1 x m i<0)/\(k7 i m x=(dz (o1 x m i)).length/\ ∀(i_1:Nat),i_1<k7 i m x->
  bK (t5 i i_1 m x) (f.enc ((dz (o1 x m i)).getD i_1 0)))/\t6 i m x=(g6 x m i).fst.snd/\t7 i m x=decide (o2 x m i<0)/\(k9 i m x=(dz (o2 x m i)).length
  /\ ∀(i_1:Nat),i_1<k9 i m x->bK (t9 i i_1 m x) (f.enc ((dz (o2 x m i)).getD i_1 0)))/\u0 i m x=(g6 x m i).snd.snd/\True)/\True)/\True
 let u6:=fun(x:List (List Int))=>(↑(ec (c9 x)).length:Int)
 let u7:=fun(x m:List ao) (s:Int) (x1:List (List Int))=>o0 x s=false->True/\gw x1 (g s) (d x)/\(u6 x1-g s).toNat<(u6 x1-s).toNat/\ab
  3 (J x/\ab 69 (d1 m/\f5 s/\j6))/\d2 x
 let c3:=fun(x:List ao) (m:Nat)=>(x.getD (0+m) d0).fst
 let g7:=fun(x:List (List Int)) (m:Nat)=>((aC (c9 x)).getD m d0).fst
 let u8:=fun(x:List ao) (m:Nat)=>(x.getD (0+m) d0).snd
 let d5:=fun(x:List ao) (m:Nat)=>(u8 x m).fst
 let u9:=fun(x:List (List Int)) (m:Nat)=>((aC (c9 x)).getD m d0).snd
 let g8:=fun(x:List (List Int)) (m:Nat)=>(u9 x m).fst
 let d6:=fun(x:List ao) (m:Nat)=>(u8 x m).snd
 let g9:=fun(x:List (List Int)) (m:Nat)=>(u9 x m).snd
 ab 3 ((ia l 0 []/\ab 3 ((p/\p)/\ab 10 (c4 l/\c6 l/\h0/\o4))/\p/\h2/\True)/\ ∀(n:Int) (l_1:List ao),ia l n l_1->True/\(decide (n<
  c5 l)=true->(0<=n/\n<c5 l)/\True/\d8/\ab 4 ((((∀(i:Nat),i<(d9 l n).length->t/\e.ak (e.enc ((d9 l n).getD i 0)))/\u.ak [SV.ff,SV.aq,o5]
  /\h3/\True)/\je (eR (d9 l n)) o6 N 1073741824)/\ab 2 ((dV l n 0 (d l_1)/\ab 3 (J l_1/\ab 10 (c4 l/\c6 l/\n=n/\ab 10 (h4 l n/\h5 l n/\h0
  /\h6)))/\p3 l_1 l n)/\ ∀(n_1:Int) (l_2:List ao),dV l n n_1 l_2->True/\(decide (n_1<c8 l n)=true->(0<=n_1/\n_1<c8 l n)/\B n_1<c7 l n/\
  True/\d8/\ab 2 (((p5 l n n_1/\h3)/\eJ (nn (R l n n_1)) N)/\E/\(p6 l n n_1=true->h9 l n n_1 l_2)/\(p6 l n n_1=false->ab 2 ((iz (d l_2) (h
  l_2) false/\ab 3 (f6 l_2/\ab 6 (d1 l_2/\false=false/\q0 l n n_1))/\q4 l_2 l n n_1)/\ ∀(n_2:Int) (n_3:Bool),iz (d l_2) n_2 n_3->(q5 n_2=true
  ->True/\((!n_3)=true->(0<=c0 n_2/\c0 n_2<h l_2)/\0+(c0 n_2).toNat<c l_2/\ab 2 (((p5 l n n_1/\(∀(i:Nat),i<(q6 l_2 n_2).length->t/\e.ak (e.enc
  ((q6 l_2 n_2).getD i 0)))/\u.ak (yc (q7 l_2 n_2).fst)/\u.ak (yc (q7 l_2 n_2).snd))/\il (nn (R l n n_1)) (nn (j2 l_2 n_2)))/\E/\ab 2 ((t->True/\(t
  ->r6 n_2 n n_1 l_2 l)/\(true=false->h9 l n n_1 l_2))/\(true=false->True/\iz (d l_2) (c0 n_2) r7/\0<0/\ab 3 (f6 l_2/\ab 6 (sm (c0 n_2)/\sm r7
  /\q0 l n n_1))/\q4 l_2 l n n_1))))/\((!n_3)=false->True/\r8 n_3 n_2 n n_1 l_2 l))/\(q5 n_2=false->ab 2 (r8 n_3 n_2 n n_1 l_2 l))))))/\(decide (n_1<
  c8 l n)=false->True/\ia l (g n) (d l_2)/\(1-g n).toNat<(1-n).toNat/\ab 3 (J l_2/\ab 10 (c4 l/\c6 l/\f5 n/\o4))/\d2 l_2))))/\(decide (n<
  c5 l)=false->True/\(gw l 0 (d l_1)/\ab 3 (J l_1/\ab 69 (d1 l_1/\h0/\j6))/\d2 l_1)/\ ∀(n:Int) (l_2:List ao),gw l n l_2->True/\(decide
  (n<h l_1)=true->True/\(iO n (d l_2) (d l_2)/\r9 l_2 l_1 n)/\ ∀(l_3:List ao),iO n (d l_2) l_3->(decide (g n<h l_3)=true->z n l_3/\A n
  l_3/\j8 n l_3/\F n<c l_3/\ab 2 (((j9 l_3 n/\s2 l_3 n)/\dp (yy (v l_3 n))/\dp (yy (G l_3 n)))/\E/\(k0 l_3 n=true->z n l_3/\A n l_3/\True/\k1 l_3
  n/\j8 n l_3/\F n<c l_3/\True/\(((∀(i:Nat),i<(s5 l_3 n).length->t/\e.ak (e.enc ((s5 l_3 n).getD i 0)))/\s2 l_3 n/\u.ak (yc (s1 l_3 n).snd))/\
  dA (nn (d4 l_3 n)))/\z n l_3/\A n l_3/\j8 n l_3/\F n<c l_3/\E/\iO n (d l_2) (c2 l_3 n)/\W7 (c2 l_3 n)<W7 l_3/\ab 3 ((p/\c l_3=(c2 l_3
  n).length)/\j7 n l_1)/\y/\((c l_3=(c2 l_3 n).length/\j5/\ ∀(i:Nat),i<c l_3->(s8 i n l_3=(s9 l_3 n i).length/\ ∀(i_1:Nat),i_1<s8 i n l_3->bK
  (if r i n=true then e.enc ((s6 l_3 n).getD i_1 0)else t0 i i_1 n l_3) (e.enc ((s9 l_3 n i).getD i_1 0)))/\(if r i n=true then decide ((g1 l_3 n).fst<0)else
  t3 i n l_3)=decide (k6 l_3 n i<0)/\(t4 i n l_3=(dz (k6 l_3 n i)).length/\ ∀(i_1:Nat),i_1<t4 i n l_3->bK (if r i n=true then f.enc ((dz (g1 l_3
  n).fst).getD i_1 0)else t5 i i_1 n l_3) (f.enc ((dz (k6 l_3 n i)).getD i_1 0)))/\(if r i n=true then(g1 l_3 n).snd else t6 i n l_3)=(g3 l_3 n i).fst.snd/\
  (if r i n=true then decide ((g4 l_3 n).fst<0)else t7 i n l_3)=decide (k8 l_3 n i<0)/\(t8 i n l_3=(dz (k8 l_3 n i)).length/\ ∀(i_1:Nat),i_1<t8 i
  n l_3->bK (if r i n=true then f.enc ((dz (g4 l_3 n).fst).getD i_1 0)else t9 i i_1 n l_3) (f.enc ((dz (k8 l_3 n i)).getD i_1 0)))/\(if r i n=true then(g4
  l_3 n).snd else u0 i n l_3)=(g3 l_3 n i).snd.snd/\True)/\True)/\True)/\(k0 l_3 n=false->(cT n (d l_3) (d l_3)/\ab 3 (J l_3/\u1 n l_1 l_3)/\d2 l_3)
  /\ ∀(l_4:List ao),cT n (d l_3) l_4->z n l_4/\A n l_4/\d8/\ab 2 (u2 l_4 n/\E/\(o0 l_4 n=true->z n l_4/\A n l_4/\True/\k1 l_4 n/\z n l_4/\A
  n l_4/\True/\cT n (d l_3) (H l_4 n)/\mu5 n (H l_4 n)<mu5 n l_4/\ab 3 (u3 l_4 n/\u1 n l_1 l_3)/\u5 l_4 n)/\u7 l_4 l_1 n l))))/\(decide (g n<h l_3)
  =false->E/\(cT n (d l_3) (d l_3)/\r9 l_3 l_1 n)/\ ∀(l_4:List ao),cT n (d l_3) l_4->z n l_4/\A n l_4/\d8/\ab 2 (u2 l_4 n/\E/\(o0 l_4 n=
  true->z n l_4/\A n l_4/\True/\k1 l_4 n/\z n l_4/\A n l_4/\True/\cT n (d l_3) (H l_4 n)/\mu5 n (H l_4 n)<mu5 n l_4/\ab 3 (u3 l_4 n/\j7 n l_1)/\
  u5 l_4 n)/\u7 l_4 l_1 n l)))/\(decide (n<h l_1)=false->True/\(0+c l_2<=c l_2/\ ∀(i:Nat),i<c l_2->t)/\(c l_2=(aC (c9 l)).length/\ ∀(i:Nat),
  i<c l_2->((c3 l_2 i).length=(g7 l i).length/\ ∀(i_1:Nat),i_1<(c3 l_2 i).length->decide ((c3 l_2 i).getD i_1 0<0)=decide ((g7 l i).getD i_1 0<0)
  /\((dz ((c3 l_2 i).getD i_1 0)).length=(dz ((g7 l i).getD i_1 0)).length/\ ∀(i_2:Nat),i_2<(dz ((c3 l_2 i).getD i_1 0)).length->(dz ((c3 l_2 i).getD i_1
  0)).getD i_2 0=(dz ((g7 l i).getD i_1 0)).getD i_2 0/\True)/\True)/\decide ((d5 l_2 i).fst<0)=decide ((g8 l i).fst<0)/\((dz (d5 l_2 i).fst).length=
  (dz (g8 l i).fst).length/\ ∀(i_1:Nat),i_1<(dz (d5 l_2 i).fst).length->(dz (d5 l_2 i).fst).getD i_1 0=(dz (g8 l i).fst).getD i_1 0/\True)/\(d5 l_2 i).snd
  =(g8 l i).snd/\decide ((d6 l_2 i).fst<0)=decide ((g9 l i).fst<0)/\((dz (d6 l_2 i).fst).length=(dz (g9 l i).fst).length/\ ∀(i_1:Nat),i_1<(dz (d6
  l_2 i).fst).length->(dz (d6 l_2 i).fst).getD i_1 0=(dz (g9 l i).fst).getD i_1 0/\True)/\(d6 l_2 i).snd=(g9 l i).snd/\True)/\True))))=SU l:=by kernel_rfl
@[simp] theorem rwN_eq (l:List ao):rwN l=l:=iJ (C:=ei) rfl
@[simp] theorem nn_eq (a:ao):nn a=a:=by unfold nn;simp
@[simp] theorem nc_good (a:ao):ei.ak (nc a):=ei.kW a
@[simp] theorem good0 :cR.ak [SV.ff,SV.aq,SV.int IntKind.i64 0]:=EK.mk ⟨trivial,false,[],rfl,rfl,Ei,fun h=>by cases h⟩
theorem x8 (a:ao):ei.dec (nc a)=some a:=ei.self a
theorem len_enc (a:ao):(ei.enc a).length=7:=rfl
theorem Ul (a:ao):(nc a).length=7:=rfl
theorem Ea {x y:List SV} (h:x.length=y.length):cE x 0 y=y:=by
 unfold cE;rw [Z8,Jj,Jg,Y6 (by omega),Kw]
theorem yo {c:Bool}: ∀{x y:List SV},x.length=y.length->(af c x y).length=x.length
 |[],[],_=>rfl
 |_::r,_::r',h=>by simp only [af,Jc];rw [yo (by simpa using h)]
 |[],_::_,h=>by simp at h
 |_::_,[],h=>by simp at h
theorem Rv (a b:ao):cE (ei.enc a) 0 (nc b)=nc b:=Ea rfl
theorem Nj (c:Bool) (a b d:ao):cE (af c (nc a) (ei.enc b)) 0 (nc d)=nc d:=Ea (by rw [yo (by rw [Ul,len_enc])];rfl)
theorem Vv (l:List ao) (a:ao):(ah ei (l.length+1) fun j=>af (decide (j<l.length)) (ei.enc (l.getD j d0)) (af (decide (j-l.length=0)) (nc a) (ei.enc (l.getD (j-l.length-1) d0))))=l++[a]:=
 xx (C:=ei) (k:=1) (m:=[a]) (g:=fun i=>af (decide (i=0)) (nc a) (ei.enc (l.getD (i-1) d0))) rfl rfl (fun i hi=>by
  have e:i=0:=by omega
  subst e;rw [ei.Aa _ _ _ _ _ (x8 a) (ei.self _)];simp) (by rw [ei.Aa _ _ _ _ _ (x8 a) (ei.self _)];rfl)
theorem setN1 (l:List ao) (k:Nat) (v:ao):(ah ei l.length fun i=>af (decide (i=k)) (nc v) (ei.enc (l.getD i d0)))=l.set k v:=xt (C:=ei) rfl (x8 v)
theorem ZQ (l:List ao) (j k:Nat) (v w:ao):(ah ei l.length fun i=>af (decide (i=k)) (nc w) (af (decide (i=j)) (nc v) (ei.enc (l.getD i d0))))=(l.set j v).set k w:=by
 refine kj (by simp) fun i hi=> ?_
 rw [ei.Aa _ _ _ _ _ (x8 w) (ei.Aa _ _ _ _ _ (x8 v) (ei.self _))];simp only [decide_eq_true_eq,J0,K6,Ks]
 by_cases e1:i=k
 . subst e1;simp [hi]
 . rw [if_neg e1,if_neg (fun h:k=i=>e1 h.symm)]
   by_cases e2:i=j
   . subst e2;simp [hi]
   . rw [if_neg e2,if_neg (fun h:j=i=>e2 h.symm)];rfl
theorem k354 :aH Tryz.prog UR:=av k211 hm Tryz.func354 (by kernel_rfl) (by kernel_rfl) iR.nil.ok (by kernel_rfl) (fun _=>[]) fun a hp=>by
 have h:SF a:=by
  rw [<-LH];generalize a=u at*
  try dsimp only at hp
  simp [-List.getD_eq_getElem?_getD];have e:dz y1.1=[1]:=by
   have e0:dz y1.1=lm 1:=by unfold dz y1;rfl
   rw [e0,oM (by omega),show 1/4294967296=0 from rfl,ur];rfl
  rw [e];exact⟨by unfold fN;omega,by unfold y1;omega,⟨rfl,rfl⟩,rfl⟩
 exact h
end Go.Proofs.Big
namespace Go.Proofs.Big
open Go Go.Sx Go.Proofs
variable [bW]
set_option maxHeartbeats 4000000
attribute [local irreducible] lm nv tl dg dz
theorem dO (p:List Int):ec p=(dG p).filter kV:=by unfold ec;rfl
theorem zQ (p:List Int):dG p=bR p (0,0) y1:=by unfold dG y0;rfl
theorem Ro {p:List Int} (h:okB p):je p y0 y1 1073741824/\(dG p).length<=2/\(∀a∈dG p,eJ a y1)/\Lo (ec p):=by unfold okB at h;exact h
theorem Nv {l:List ao} (h:Lo l):l.length<=2/\(l.length=2->il (l.getD 1 d0) (l.getD 0 d0)/\po jR ke zK 3000 (l.getD 0 d0,l.getD 1 d0))/\ ∀i,i<l.length->C1 ((pj i (oD l i)).getD i d0):=by unfold Lo at h;exact h
theorem yd (a:ao):kV a=decide (gn a y1<0):=by unfold kV;rfl
theorem uk {l:List ao} {i:Nat} (h:i<l.length):l.getD i d0∈l:=by
 rw [J0,J4 h];exact Ku _
theorem Bn {l:List ao} {i:Nat} (h:i<l.length):l.take (i+1)=l.take i++[l.getD i d0]:=by
 rw [X4,J0,J4 h];rfl
theorem JP {l:List ao} {i:Nat} (h:i<l.length) (hk:kV (l.getD i d0)=true): ∃r,l.filter kV=(l.take i).filter kV++(l.getD i d0)::r:=by
 refine⟨(l.drop (i+1)).filter kV,?_⟩
 conv=>lhs;rw [<-List.take_append_drop (i+1) l,Y7,Bn h,Y7]
 simp only [Q3,hk,if_true,List.filter_nil,Jq,K0,Jj]
theorem QR {l:List ao}:(yK l).length=l.length:=by
 unfold yK;split
 . next h=>rw [h];rfl
 . rfl
theorem PJ {i:Nat} {l:List ao}:(pj i l).length=l.length:=by
 unfold pj;split
 . exact QR
 . rfl
theorem gr (l:List ao):oD l 0=l:=by kernel_rfl
theorem kG (l:List ao) (k:Nat):oD l (k+1)=(pj k (oD l k)).set k (pH ((pj k (oD l k)).getD k d0)):=by kernel_rfl
theorem Cz {l:List ao}: ∀k,(oD l k).length=l.length
 |0=>by rw [gr]
 |k+1=>by rw [kG,Ks,PJ,Cz k]
theorem uS (p:List Int):aC p=oD (ec p) (ec p).length:=by unfold aC;rfl
theorem zj {q:ao} (h:dA q):dp q.2.1/\dp q.2.2:=by
 obtain⟨h,_⟩:=zJ h;unfold ql at h;exact⟨h.1,h.2.1⟩
theorem Hq :dp y1:=by
 unfold dp y1;refine⟨?_,by omega,by omega⟩;have h1:pw 1<=pw 10000:=gT (by omega);have h2:pw 1=4294967296:=by rw [bD,fh];rfl
 omega
theorem Eb (a:ao):gA a=decide (aW (dd a.2.2 y1)<0):=by unfold gA;rfl
theorem FO (s:ao×ao):jR s=decide (aW (dd s.1.2.2 s.2.2.1)<0):=by unfold jR;rfl
theorem tP {l:List ao} {i:Nat} (h:i<l.length):l=l.set i (l.getD i d0):=by
 rw [J0,J4 h];simp
theorem WC {l:List ao} (h:l.length=2):l=[l.getD 0 d0,l.getD 1 d0]:=by
 match l,h with
 |[a,b],_=>rfl
theorem elt2 {c:Prop} [Decidable c] {x y v:ao} (hv:v=if c then x else y):((if c then x.fst.length else y.fst.length)=v.fst.length/\ ∀(i_1:Nat),(i_1<if c then x.fst.length else y.fst.length)->bK (if c then aj.enc (x.fst.getD i_1 (0:Int))else aj.enc (y.fst.getD i_1 (0:Int))) (aj.enc (v.fst.getD i_1 (0:Int))))/\(if c then decide (x.snd.fst.fst<(0:Int))else decide (y.snd.fst.fst<(0:Int)))=decide (v.snd.fst.fst<(0:Int))/\((if c then(dz x.snd.fst.fst).length else(dz y.snd.fst.fst).length)=(dz v.snd.fst.fst).length/\ ∀(i_1:Nat),(i_1<if c then(dz x.snd.fst.fst).length else(dz y.snd.fst.fst).length)->bK (if c then [SV.int IntKind.u32 ((dz x.snd.fst.fst).getD i_1 (0:Int))]else [SV.int IntKind.u32 ((dz y.snd.fst.fst).getD i_1 (0:Int))]) [SV.int IntKind.u32 ((dz v.snd.fst.fst).getD i_1 (0:Int))])/\(if c then x.snd.fst.snd else y.snd.fst.snd)=v.snd.fst.snd/\(if c then decide (x.snd.snd.fst<(0:Int))else decide (y.snd.snd.fst<(0:Int)))=decide (v.snd.snd.fst<(0:Int))/\((if c then(dz x.snd.snd.fst).length else(dz y.snd.snd.fst).length)=(dz v.snd.snd.fst).length/\ ∀(i_1:Nat),(i_1<if c then(dz x.snd.snd.fst).length else(dz y.snd.snd.fst).length)->bK (if c then [SV.int IntKind.u32 ((dz x.snd.snd.fst).getD i_1 (0:Int))]else [SV.int IntKind.u32 ((dz y.snd.snd.fst).getD i_1 (0:Int))]) [SV.int IntKind.u32 ((dz v.snd.snd.fst).getD i_1 (0:Int))])/\(if c then x.snd.snd.snd else y.snd.snd.snd)=v.snd.snd.snd:=by
 subst hv
 by_cases h:c
 . simp only [if_pos h];exact⟨⟨trivial,fun j _=>GP _⟩,trivial,⟨trivial,fun j _=>⟨rfl,trivial⟩⟩,trivial,trivial,⟨trivial,fun j _=>⟨rfl,trivial⟩⟩,trivial⟩
 . simp only [if_neg h];exact⟨⟨trivial,fun j _=>GP _⟩,trivial,⟨trivial,fun j _=>⟨rfl,trivial⟩⟩,trivial,trivial,⟨trivial,fun j _=>⟨rfl,trivial⟩⟩,trivial⟩
theorem VF {c d:Prop} [Decidable c] [Decidable d] {x y z v:ao} (hv:v=if c then x else if d then y else z):((if c then x.fst.length else if d then y.fst.length else z.fst.length)=v.fst.length/\ ∀(i_1:Nat),(i_1<if c then x.fst.length else if d then y.fst.length else z.fst.length)->bK (if c then aj.enc (x.fst.getD i_1 (0:Int))else if d then aj.enc (y.fst.getD i_1 (0:Int))else aj.enc (z.fst.getD i_1 (0:Int))) (aj.enc (v.fst.getD i_1 (0:Int))))/\(if c then decide (x.snd.fst.fst<(0:Int))else if d then decide (y.snd.fst.fst<(0:Int))else decide (z.snd.fst.fst<(0:Int)))=decide (v.snd.fst.fst<(0:Int))/\((if c then(dz x.snd.fst.fst).length else if d then(dz y.snd.fst.fst).length else(dz z.snd.fst.fst).length)=(dz v.snd.fst.fst).length/\ ∀(i_1:Nat),(i_1<if c then(dz x.snd.fst.fst).length else if d then(dz y.snd.fst.fst).length else(dz z.snd.fst.fst).length)->bK (if c then [SV.int IntKind.u32 ((dz x.snd.fst.fst).getD i_1 (0:Int))]else if d then [SV.int IntKind.u32 ((dz y.snd.fst.fst).getD i_1 (0:Int))]else [SV.int IntKind.u32 ((dz z.snd.fst.fst).getD i_1 (0:Int))]) [SV.int IntKind.u32 ((dz v.snd.fst.fst).getD i_1 (0:Int))])/\(if c then x.snd.fst.snd else if d then y.snd.fst.snd else z.snd.fst.snd)=v.snd.fst.snd/\(if c then decide (x.snd.snd.fst<(0:Int))else if d then decide (y.snd.snd.fst<(0:Int))else decide (z.snd.snd.fst<(0:Int)))=decide (v.snd.snd.fst<(0:Int))/\((if c then(dz x.snd.snd.fst).length else if d then(dz y.snd.snd.fst).length else(dz z.snd.snd.fst).length)=(dz v.snd.snd.fst).length/\ ∀(i_1:Nat),(i_1<if c then(dz x.snd.snd.fst).length else if d then(dz y.snd.snd.fst).length else(dz z.snd.snd.fst).length)->bK (if c then [SV.int IntKind.u32 ((dz x.snd.snd.fst).getD i_1 (0:Int))]else if d then [SV.int IntKind.u32 ((dz y.snd.snd.fst).getD i_1 (0:Int))]else [SV.int IntKind.u32 ((dz z.snd.snd.fst).getD i_1 (0:Int))]) [SV.int IntKind.u32 ((dz v.snd.snd.fst).getD i_1 (0:Int))])/\(if c then x.snd.snd.snd else if d then y.snd.snd.snd else z.snd.snd.snd)=v.snd.snd.snd:=by
 subst hv
 by_cases h:c
 . simp only [if_pos h];exact⟨⟨trivial,fun j _=>GP _⟩,trivial,⟨trivial,fun j _=>⟨rfl,trivial⟩⟩,trivial,trivial,⟨trivial,fun j _=>⟨rfl,trivial⟩⟩,trivial⟩
 . simp only [if_neg h];exact elt2 rfl
theorem OP {l:List (List Int)} {n_1:Int} {l_3:List ao} (h0:0<=n_1) (h1:n_1<(ec (l.getD 0 [])).length) (hk:Lo (ec (l.getD 0 []))) (h3:l_3=pj n_1.toNat (oD (ec (l.getD 0 [])) n_1.toNat)):cT n_1 l_3 l_3/\ ∀(l_4:List ao),
 cT n_1 l_3 l_4->((0:Int)<=n_1/\n_1< ↑l_4.length)/\n_1.toNat<l_4.length/\(dp (l_4.getD n_1.toNat d0).snd.snd/\dp y1)/\((0:Int)<=aW (dd (l_4.getD
 n_1.toNat d0).snd.snd y1)->((0:Int)<=n_1/\n_1< ↑l_4.length)/\n_1.toNat<l_4.length/\dA (l_4.getD n_1.toNat d0)/\((0:Int)<=n_1/\n_1< ↑l_4.length)
 /\n_1.toNat<l_4.length/\cT n_1 l_3 (l_4.set n_1.toNat (ai (l_4.getD n_1.toNat d0)))/\mu5 n_1 (l_4.set n_1.toNat (ai (l_4.getD n_1.toNat d0)))<mu5
 n_1 l_4/\ ∀(i:Nat),i<l_4.length->((if i=n_1.toNat then(ai (l_4.getD n_1.toNat d0)).fst.length else(l_4.getD i d0).fst.length)=((l_4.set n_1.toNat
 (ai (l_4.getD n_1.toNat d0))).getD i d0).fst.length/\ ∀(i_1:Nat),(i_1<if i=n_1.toNat then(ai (l_4.getD n_1.toNat d0)).fst.length else(l_4.getD i
 d0).fst.length)->bK (if i=n_1.toNat then aj.enc ((ai (l_4.getD n_1.toNat d0)).fst.getD i_1 (0:Int))else aj.enc ((l_4.getD i d0).fst.getD i_1 (0:
 Int))) (aj.enc (((l_4.set n_1.toNat (ai (l_4.getD n_1.toNat d0))).getD i d0).fst.getD i_1 (0:Int))))/\(if i=n_1.toNat then decide ((ai (l_4.getD n_1.toNat
 d0)).snd.fst.fst<(0:Int))else decide ((l_4.getD i d0).snd.fst.fst<(0:Int)))=decide (((l_4.set n_1.toNat (ai (l_4.getD n_1.toNat d0))).getD i d0).snd.fst.fst
 <(0:Int))/\((if i=n_1.toNat then(dz (ai (l_4.getD n_1.toNat d0)).snd.fst.fst).length else(dz (l_4.getD i d0).snd.fst.fst).length)=(dz ((l_4.set n_1.toNat
 (ai (l_4.getD n_1.toNat d0))).getD i d0).snd.fst.fst).length/\ ∀(i_1:Nat),(i_1<if i=n_1.toNat then(dz (ai (l_4.getD n_1.toNat d0)).snd.fst.fst).length
 else(dz (l_4.getD i d0).snd.fst.fst).length)->bK (if i=n_1.toNat then [SV.int IntKind.u32 ((dz (ai (l_4.getD n_1.toNat d0)).snd.fst.fst).getD i_1 (0:Int))]
 else [SV.int IntKind.u32 ((dz (l_4.getD i d0).snd.fst.fst).getD i_1 (0:Int))]) [SV.int IntKind.u32 ((dz ((l_4.set n_1.toNat (ai (l_4.getD n_1.toNat d0))).getD
 i d0).snd.fst.fst).getD i_1 (0:Int))])/\(if i=n_1.toNat then(ai (l_4.getD n_1.toNat d0)).snd.fst.snd else(l_4.getD i d0).snd.fst.snd)=((l_4.set n_1.toNat
 (ai (l_4.getD n_1.toNat d0))).getD i d0).snd.fst.snd/\(if i=n_1.toNat then decide ((ai (l_4.getD n_1.toNat d0)).snd.snd.fst<(0:Int))else decide ((l_4.getD
 i d0).snd.snd.fst<(0:Int)))=decide (((l_4.set n_1.toNat (ai (l_4.getD n_1.toNat d0))).getD i d0).snd.snd.fst<(0:Int))/\((if i=n_1.toNat then(dz
 (ai (l_4.getD n_1.toNat d0)).snd.snd.fst).length else(dz (l_4.getD i d0).snd.snd.fst).length)=(dz ((l_4.set n_1.toNat (ai (l_4.getD n_1.toNat d0))).getD
 i d0).snd.snd.fst).length/\ ∀(i_1:Nat),(i_1<if i=n_1.toNat then(dz (ai (l_4.getD n_1.toNat d0)).snd.snd.fst).length else(dz (l_4.getD i d0).snd.snd.fst).length)
 ->bK (if i=n_1.toNat then [SV.int IntKind.u32 ((dz (ai (l_4.getD n_1.toNat d0)).snd.snd.fst).getD i_1 (0:Int))]else [SV.int IntKind.u32 ((dz (l_4.getD
 i d0).snd.snd.fst).getD i_1 (0:Int))]) [SV.int IntKind.u32 ((dz ((l_4.set n_1.toNat (ai (l_4.getD n_1.toNat d0))).getD i d0).snd.snd.fst).getD i_1 (0:Int))])
 /\(if i=n_1.toNat then(ai (l_4.getD n_1.toNat d0)).snd.snd.snd else(l_4.getD i d0).snd.snd.snd)=((l_4.set n_1.toNat (ai (l_4.getD n_1.toNat d0))).getD
 i d0).snd.snd.snd)/\(aW (dd (l_4.getD n_1.toNat d0).snd.snd y1)<(0:Int)->gw l (W (n_1+(1:Int))) l_4/\max (↑(ec (l.getD (0:Nat) [])).length
 -W (n_1+(1:Int))) (0:Int)< ↑(ec (l.getD (0:Nat) [])).length-n_1):=by
 obtain⟨k1,k2,k3⟩:=Nv hk;have hL:l_3.length=(ec (l.getD 0 [])).length:=by rw [h3,PJ,Cz]
 have hi:n_1.toNat<l_3.length:=by omega
 refine⟨?_,fun l_4 h4=> ?_⟩
 . unfold cT;refine⟨tP hi,by unfold pH;rfl,3000,by omega,?_⟩;have:=k3 n_1.toNat (by omega);rw [<-h3]at this;unfold C1 at this;exact this
 . unfold cT at h4;obtain⟨e1,e2,k,hk,e3⟩:=h4;have hL4:l_4.length=l_3.length:=by rw [e1,Ks]
   have hi4:n_1.toNat<l_4.length:=by omega
   refine⟨by omega,hi4,⟨(zj (zd e3)).2,Hq⟩,fun hs=> ?_,fun hs=> ?_⟩
   . have hd:gA (l_4.getD n_1.toNat d0)=false:=by rw [Eb,decide_eq_false (by omega)]
     obtain⟨⟨j,hj,s1⟩,s2,s3⟩:=IA e3 hk hd;have g:(l_4.set n_1.toNat (ai (l_4.getD n_1.toNat d0))).getD n_1.toNat d0=ai (l_4.getD n_1.toNat d0):=by rw [bo hi4,if_pos rfl]
     refine⟨by omega,hi4,zd e3,by omega,hi4,?_,?_,fun i hi=> ?_⟩
     . unfold cT;rw [g];refine⟨?_,by rw [s2,e2],j,by omega,s1⟩;exact(congrArg (fun x:List ao=>x.set n_1.toNat (ai (l_4.getD n_1.toNat d0))) e1).trans (by rw [List.set_set])
     . unfold mu5;rw [g];exact s3
     . exact elt2 (bo hi)
   . have hd:gA (l_4.getD n_1.toNat d0)=true:=by rw [Eb,decide_eq_true hs]
     rw [Ic hd]at e2;rw [aG (n:=n_1+1) (by omega) (by omega)];refine⟨?_,by omega⟩;unfold gw;refine⟨by omega,by omega,?_⟩;rw [show(n_1+1).toNat=n_1.toNat+1 by omega,kG,<-h3,<-e2];exact e1
theorem g353 {l:List (List Int)} (hp:qJ l):
 let P:=fun(m:List (List Int))=>(↑m.length:Int)
 let d:=fun(m:Int)=>m.toNat
 let d5:=((0:Int),(0:Int))
 let Q:=fun(m:List (List Int)) (x1:Int)=>bR (m.getD (d x1) []) d5 y1
 let R:=fun(m:List (List Int)) (x1:Int)=>(↑(Q m x1).length:Int)
 let q:=fun(m:List (List Int)) (x1 y1:Int)=>(Q m x1).getD (d y1) d0
 let g:=fun(m:Int)=>W (m+1)
 let w:=fun(m:List (List Int))=>m.getD 0 []
 let d6:=fun(m:List (List Int))=>(↑(dG (w m)).length:Int)
 let d7:=fun(m:List (List Int)) (x1:Int)=>max (d6 m-g x1) 0<d6 m-x1
 let T:=fun(m:List (List Int)) (x1 y1:Int) (u1:List ao)=>dV m x1 (g y1) u1/\d7 m y1
 let c:=fun(m:List ao)=>m.length
 let j:=fun(m:List ao)=>(↑(c m):Int)
 let c0:=fun(m:List ao) (x1:List (List Int)) (y1 u1:Int)=>m++[q x1 y1 u1]
 let d8:=fun(m:List ao) (x1:Nat)=>(m.getD x1 d0).fst
 let y:=fun(m:List ao) (x1:Nat)=>(d8 m x1).length
 let h:=fun(m:Nat) (x1:List ao)=>m-c x1
 let d9:=fun(m:List (List Int)) (x1 y1:Int)=>(q m x1 y1).fst
 let e0:=fun(m:List ao) (x1:Nat)=>(m.getD (h x1 m-1) d0).fst
 let e1:=fun(m:Nat) (x1:List ao) (y1:List (List Int)) (u1 v1:Int)=>if m<c x1 then y x1 m else if h m x1=0 then(d9 y1 u1 v1).length else(e0 x1
  m).length
 let e2:=fun(m:List ao) (x1:List (List Int)) (y1 u1:Int) (v1:Nat)=>((c0 m x1 y1 u1).getD v1 d0).fst
 let k:=aj
 let r:=fun(m:List ao) (x1 y1:Nat)=>(d8 m x1).getD y1 0
 let e3:=fun(m:List ao) (x1:Nat)=>(m.getD x1 d0).snd
 let o:=fun(m:List ao) (x1:Nat)=>(e3 m x1).fst
 let e4:=fun(m:List ao) (x1:Nat)=>decide ((o m x1).fst<0)
 let z:=fun(m:List (List Int)) (x1 y1:Int)=>(q m x1 y1).snd
 let c1:=fun(m:List (List Int)) (x1 y1:Int)=>(z m x1 y1).fst.fst
 let e5:=fun(m:List ao) (x1:Nat)=>(m.getD (h x1 m-1) d0).snd
 let A:=fun(m:List ao) (x1:Nat)=>(e5 m x1).fst
 let s:=fun(m:List ao) (x1:List (List Int)) (y1 u1:Int) (v1:Nat)=>((c0 m x1 y1 u1).getD v1 d0).snd
 let B:=fun(m:List ao) (x1:Nat)=>(dz (o m x1).fst).length
 let e6:=fun(m:Nat) (x1:List ao) (y1:List (List Int)) (u1 v1:Int)=>if m<c x1 then B x1 m else if h m x1=0 then(dz (c1 y1 u1 v1)).length else(dz
  (A x1 m).fst).length
 let e7:=fun(m:List ao) (x1:List (List Int)) (y1 u1:Int) (v1:Nat)=>dz (s m x1 y1 u1 v1).fst.fst
 let f:=([]:List SV)
 let e8:=fun(m:List ao) (x1 y1:Nat)=>SV.int IntKind.u32 ((dz (o m x1).fst).getD y1 0)::f
 let p:=fun(m:List ao) (x1:Nat)=>(e3 m x1).snd
 let e9:=fun(m:List ao) (x1:Nat)=>decide ((p m x1).fst<0)
 let c2:=fun(m:List (List Int)) (x1 y1:Int)=>(z m x1 y1).snd.fst
 let C:=fun(m:List ao) (x1:Nat)=>(e5 m x1).snd
 let D:=fun(m:List ao) (x1:Nat)=>(dz (p m x1).fst).length
 let f0:=fun(m:Nat) (x1:List ao) (y1:List (List Int)) (u1 v1:Int)=>if m<c x1 then D x1 m else if h m x1=0 then(dz (c2 y1 u1 v1)).length else(dz
  (C x1 m).fst).length
 let f1:=fun(m:List ao) (x1:List (List Int)) (y1 u1:Int) (v1:Nat)=>dz (s m x1 y1 u1 v1).snd.fst
 let f2:=fun(m:List ao) (x1 y1:Nat)=>SV.int IntKind.u32 ((dz (p m x1).fst).getD y1 0)::f
 let f3:=fun(m x1 y1:Int) (u1:List ao) (v1:List (List Int))=>(0<=m/\m<=j u1)/\m=j u1/\(d m=c u1/\c u1<=140737488355327/\(c u1+1)*104<=
  140737488355328)/\dV v1 x1 (g y1) (c0 u1 v1 x1 y1)/\d7 v1 y1/\ ∀(i:Nat),i<c u1+1->(e1 i u1 v1 x1 y1=(e2 u1 v1 x1 y1 i).length/\ ∀(i_1:Nat),
  i_1<e1 i u1 v1 x1 y1->bK (if i<c u1 then k.enc (r u1 i i_1)else if h i u1=0 then k.enc ((d9 v1 x1 y1).getD i_1 0)else k.enc ((e0 u1 i).getD i_1 0)) (k.enc
  ((e2 u1 v1 x1 y1 i).getD i_1 0)))/\(if i<c u1 then e4 u1 i else if h i u1=0 then decide (c1 v1 x1 y1<0)else decide ((A u1 i).fst<0))=decide ((s u1 v1
  x1 y1 i).fst.fst<0)/\(e6 i u1 v1 x1 y1=(e7 u1 v1 x1 y1 i).length/\ ∀(i_1:Nat),i_1<e6 i u1 v1 x1 y1->bK (if i<c u1 then e8 u1 i i_1 else if h i u1
  =0 then SV.int IntKind.u32 ((dz (c1 v1 x1 y1)).getD i_1 0)::f else SV.int IntKind.u32 ((dz (A u1 i).fst).getD i_1 0)::f) (SV.int IntKind.u32 ((e7 u1 v1 x1 y1
  i).getD i_1 0)::f))/\(if i<c u1 then(o u1 i).snd else if h i u1=0 then(z v1 x1 y1).fst.snd else(A u1 i).snd)=(s u1 v1 x1 y1 i).fst.snd/\(if i<c u1
  then e9 u1 i else if h i u1=0 then decide (c2 v1 x1 y1<0)else decide ((C u1 i).fst<0))=decide ((s u1 v1 x1 y1 i).snd.fst<0)/\(f0 i u1 v1 x1 y1=(f1
  u1 v1 x1 y1 i).length/\ ∀(i_1:Nat),i_1<f0 i u1 v1 x1 y1->bK (if i<c u1 then f2 u1 i i_1 else if h i u1=0 then SV.int IntKind.u32 ((dz (c2 v1 x1 y1)).getD
  i_1 0)::f else SV.int IntKind.u32 ((dz (C u1 i).fst).getD i_1 0)::f) (SV.int IntKind.u32 ((f1 u1 v1 x1 y1 i).getD i_1 0)::f))/\(if i<c u1 then(p u1 i).snd
  else if h i u1=0 then(z v1 x1 y1).snd.snd else(C u1 i).snd)=(s u1 v1 x1 y1 i).snd.snd
 let t:=fun(m:Int) (x1:List ao)=>0<=m/\m<j x1
 let u:=fun(m:Int) (x1:List ao)=>d m<c x1
 let c3:=fun(m:Int) (x1:List ao)=>0<=g m/\g m<j x1
 let e:=fun(m:Int)=>(g m).toNat
 let v:=fun(m:List ao) (x1:Int)=>(m.getD (d x1) d0).snd.snd
 let c4:=fun(m:List ao) (x1:Int)=>(m.getD (e x1) d0).snd.fst
 let c5:=fun(m:List ao) (x1:Int)=>ai (m.getD (d x1) d0)
 let x:=fun(m:List ao) (x1:Int)=>m.set (d x1) (c5 m x1)
 let c6:=fun(m:List ao) (x1:Int)=>ai (m.getD (e x1) d0)
 let E:=fun(m:List ao) (x1:Int)=>(x m x1).set (e x1) (c6 m x1)
 let f4:=fun(m:List ao) (x1:Int)=>(c6 m x1).fst
 let f5:=fun(m:List ao) (x1:Int)=>(c5 m x1).fst
 let c7:=fun(m:Nat) (x1:Int) (y1:List ao)=>if m=d x1 then(f5 y1 x1).length else y y1 m
 let f6:=fun(m:Nat) (x1:Int) (y1:List ao)=>if m=e x1 then(f4 y1 x1).length else c7 m x1 y1
 let f7:=fun(m:List ao) (x1:Int) (y1:Nat)=>((E m x1).getD y1 d0).fst
 let f8:=fun(m x1:Nat) (y1:Int) (u1:List ao)=>if m=d y1 then k.enc ((f5 u1 y1).getD x1 0)else k.enc (r u1 m x1)
 let f9:=fun(m:List ao) (x1:Int)=>(c6 m x1).snd
 let F:=fun(m:List ao) (x1:Int)=>(f9 m x1).fst
 let g0:=fun(m:List ao) (x1:Int)=>(c5 m x1).snd
 let G:=fun(m:List ao) (x1:Int)=>(g0 m x1).fst
 let g1:=fun(m:Nat) (x1:Int) (y1:List ao)=>if m=d x1 then decide ((G y1 x1).fst<0)else e4 y1 m
 let H:=fun(m:List ao) (x1:Int) (y1:Nat)=>((E m x1).getD y1 d0).snd
 let c8:=fun(m:List ao) (x1:Int) (y1:Nat)=>(H m x1 y1).fst.fst
 let c9:=fun(m:Nat) (x1:Int) (y1:List ao)=>if m=d x1 then(dz (G y1 x1).fst).length else B y1 m
 let g2:=fun(m:Nat) (x1:Int) (y1:List ao)=>if m=e x1 then(dz (F y1 x1).fst).length else c9 m x1 y1
 let g3:=fun(m x1:Nat) (y1:Int) (u1:List ao)=>if m=d y1 then SV.int IntKind.u32 ((dz (G u1 y1).fst).getD x1 0)::f else e8 u1 m x1
 let g4:=fun(m:Nat) (x1:Int) (y1:List ao)=>if m=d x1 then(G y1 x1).snd else(o y1 m).snd
 let J:=fun(m:List ao) (x1:Int)=>(f9 m x1).snd
 let K:=fun(m:List ao) (x1:Int)=>(g0 m x1).snd
 let g5:=fun(m:Nat) (x1:Int) (y1:List ao)=>if m=d x1 then decide ((K y1 x1).fst<0)else e9 y1 m
 let d1:=fun(m:List ao) (x1:Int) (y1:Nat)=>(H m x1 y1).snd.fst
 let d2:=fun(m:Nat) (x1:Int) (y1:List ao)=>if m=d x1 then(dz (K y1 x1).fst).length else D y1 m
 let g6:=fun(m:Nat) (x1:Int) (y1:List ao)=>if m=e x1 then(dz (J y1 x1).fst).length else d2 m x1 y1
 let g7:=fun(m x1:Nat) (y1:Int) (u1:List ao)=>if m=d y1 then SV.int IntKind.u32 ((dz (K u1 y1).fst).getD x1 0)::f else f2 u1 m x1
 let g8:=fun(m:Nat) (x1:Int) (y1:List ao)=>if m=d x1 then(K y1 x1).snd else(p y1 m).snd
 let g9:=fun(m:List ao) (x1:Int) (y1:Nat)=>((x m x1).getD y1 d0).fst
 let L:=fun(m:List ao) (x1:Int) (y1:Nat)=>((x m x1).getD y1 d0).snd
 let d3:=fun(m:List ao) (x1:Int) (y1:Nat)=>(L m x1 y1).fst.fst
 let d4:=fun(m:List ao) (x1:Int) (y1:Nat)=>(L m x1 y1).snd.fst
 let h0:=fun(m:List (List Int))=>(↑(ec (w m)).length:Int)
 let h1:=fun(m:Int) (x1:List ao) (u1:List (List Int))=>cT m x1 x1/\ ∀(l_4:List ao),cT m x1 l_4->t m l_4/\u m l_4/\(dp (v l_4 m)/\dp
  y1)/\(0<=aW (dd (v l_4 m) y1)->t m l_4/\u m l_4/\dA (l_4.getD (d m) d0)/\t m l_4/\u m l_4/\cT m x1 (x l_4 m)/\mu5 m (x l_4 m)<mu5 m l_4/\
  ∀(i:Nat),i<c l_4->(c7 i m l_4=(g9 l_4 m i).length/\ ∀(i_1:Nat),i_1<c7 i m l_4->bK (f8 i i_1 m l_4) (k.enc ((g9 l_4 m i).getD i_1 0)))/\g1 i m
  l_4=decide (d3 l_4 m i<0)/\(c9 i m l_4=(dz (d3 l_4 m i)).length/\ ∀(i_1:Nat),i_1<c9 i m l_4->bK (g3 i i_1 m l_4) (SV.int IntKind.u32 ((dz (d3 l_4
  m i)).getD i_1 0)::f))/\g4 i m l_4=(L l_4 m i).fst.snd/\g5 i m l_4=decide (d4 l_4 m i<0)/\(d2 i m l_4=(dz (d4 l_4 m i)).length/\ ∀(i_1:Nat),i_1
  <d2 i m l_4->bK (g7 i i_1 m l_4) (SV.int IntKind.u32 ((dz (d4 l_4 m i)).getD i_1 0)::f))/\g8 i m l_4=(L l_4 m i).snd.snd)/\(aW (dd (v l_4 m) y1)<0
  ->gw u1 (g m) l_4/\max (h0 u1-g m) 0<h0 u1-m)
 let M:=fun(m:List (List Int)) (x1:Nat)=>((aC (w m)).getD x1 d0).fst
 let h2:=fun(m:List (List Int)) (x1:Nat)=>((aC (w m)).getD x1 d0).snd
 let N:=fun(m:List (List Int)) (x1:Nat)=>(h2 m x1).fst
 let O:=fun(m:List (List Int)) (x1:Nat)=>(h2 m x1).snd
 ia l 0 []/\ ∀(n:Int) (l_1:List ao),ia l n l_1->(n<P l->(0<=n/\n<P l)/\je (l.getD (d n) []) d5 y1 1073741824/\dV l n 0 l_1/\ ∀
  (n_1:Int) (l_2:List ao),dV l n n_1 l_2->(n_1<R l n->(0<=n_1/\n_1<R l n)/\d n_1<(Q l n).length/\eJ (q l n n_1) y1/\(0<=gn (q l n n_1)
  y1->T l n n_1 l_2)/\(gn (q l n n_1) y1<0->iz l_2 (j l_2) false/\ ∀(n_2:Int),(iz l_2 n_2 false->(0<n_2->(0<=W (n_2-1)/\W (n_2-1)<
  j l_2)/\(W (n_2-1)).toNat<c l_2/\il (q l n n_1) (l_2.getD (W (n_2-1)).toNat d0)/\f3 n_2 n n_1 l_2 l)/\(n_2<=0->f3 n_2 n n_1 l_2 l))/\(iz l_2
  n_2 true->(0<n_2->T l n n_1 l_2)/\(n_2<=0->T l n n_1 l_2))))/\(R l n<=n_1->ia l (g n) l_2/\max (1-g n) 0<1-n))/\(P l<=n->gw l 0 l_1
  /\ ∀(n_1:Int) (l_2:List ao),gw l n_1 l_2->(n_1<j l_1->iO n_1 l_2 l_2/\ ∀(l_3:List ao),iO n_1 l_2 l_3->(g n_1<j l_3->t n_1 l_3/\
  u n_1 l_3/\c3 n_1 l_3/\e n_1<c l_3/\(dp (v l_3 n_1)/\dp (c4 l_3 n_1))/\(0<=aW (dd (v l_3 n_1) (c4 l_3 n_1))->t n_1 l_3/\u n_1 l_3/\dA (l_3.getD
  (d n_1) d0)/\c3 n_1 l_3/\e n_1<c l_3/\dA (l_3.getD (e n_1) d0)/\t n_1 l_3/\u n_1 l_3/\c3 n_1 l_3/\e n_1<c l_3/\iO n_1 l_2 (E l_3 n_1)/\W7
  (E l_3 n_1)<W7 l_3/\ ∀(i:Nat),i<c l_3->(f6 i n_1 l_3=(f7 l_3 n_1 i).length/\ ∀(i_1:Nat),i_1<f6 i n_1 l_3->bK (if i=e n_1 then k.enc ((f4 l_3
  n_1).getD i_1 0)else f8 i i_1 n_1 l_3) (k.enc ((f7 l_3 n_1 i).getD i_1 0)))/\(if i=e n_1 then decide ((F l_3 n_1).fst<0)else g1 i n_1 l_3)=decide (c8 l_3
  n_1 i<0)/\(g2 i n_1 l_3=(dz (c8 l_3 n_1 i)).length/\ ∀(i_1:Nat),i_1<g2 i n_1 l_3->bK (if i=e n_1 then SV.int IntKind.u32 ((dz (F l_3 n_1).fst).getD
  i_1 0)::f else g3 i i_1 n_1 l_3) (SV.int IntKind.u32 ((dz (c8 l_3 n_1 i)).getD i_1 0)::f))/\(if i=e n_1 then(F l_3 n_1).snd else g4 i n_1 l_3)=(H l_3 n_1
  i).fst.snd/\(if i=e n_1 then decide ((J l_3 n_1).fst<0)else g5 i n_1 l_3)=decide (d1 l_3 n_1 i<0)/\(g6 i n_1 l_3=(dz (d1 l_3 n_1 i)).length/\ ∀(i_1
  :Nat),i_1<g6 i n_1 l_3->bK (if i=e n_1 then SV.int IntKind.u32 ((dz (J l_3 n_1).fst).getD i_1 0)::f else g7 i i_1 n_1 l_3) (SV.int IntKind.u32 ((dz (d1
  l_3 n_1 i)).getD i_1 0)::f))/\(if i=e n_1 then(J l_3 n_1).snd else g8 i n_1 l_3)=(H l_3 n_1 i).snd.snd)/\(aW (dd (v l_3 n_1) (c4 l_3 n_1))<0->h1 n_1
  l_3 l))/\(j l_3<=g n_1->h1 n_1 l_3 l))/\(j l_1<=n_1->c l_2=(aC (w l)).length/\ ∀(i:Nat),i<c l_2->(y l_2 i=(M l i).length/\ ∀(i_1:Nat),i_1
  <y l_2 i->(r l_2 i i_1<0↔(M l i).getD i_1 0<0)/\(dz (r l_2 i i_1)).length=(dz ((M l i).getD i_1 0)).length/\ ∀(i_2:Nat),i_2<(dz (r l_2 i i_1)).length
  ->(dz (r l_2 i i_1)).getD i_2 0=(dz ((M l i).getD i_1 0)).getD i_2 0)/\((o l_2 i).fst<0↔(N l i).fst<0)/\(B l_2 i=(dz (N l i).fst).length/\ ∀(i_1:Nat),
  i_1<B l_2 i->(dz (o l_2 i).fst).getD i_1 0=(dz (N l i).fst).getD i_1 0)/\(o l_2 i).snd=(N l i).snd/\((p l_2 i).fst<0↔(O l i).fst<0)/\(D l_2 i=(dz
  (O l i).fst).length/\ ∀(i_1:Nat),i_1<D l_2 i->(dz (p l_2 i).fst).getD i_1 0=(dz (O l i).fst).getD i_1 0)/\(p l_2 i).snd=(O l i).snd)):=by
  conv=>zeta
  unfold qJ at hp;obtain⟨hl,hB⟩:=hp;obtain⟨b1,b2,b3,b4⟩:=Ro hB;obtain⟨k1,k2,k3⟩:=Nv b4;refine⟨by unfold ia;exact .inl ⟨rfl,rfl⟩,fun n out hinv=>⟨fun hn=> ?_,fun hn=> ?_⟩⟩
  . unfold ia at hinv;obtain⟨rfl,rfl⟩:=hinv.resolve_right (by omega);simp only [Ql,<-zQ];refine⟨⟨by omega,hn⟩,b1,by unfold dV;exact⟨rfl,by omega,by omega,rfl⟩,fun j o hinv=> ?_⟩;unfold dV at hinv;obtain⟨_,j1,j2,j3⟩:=hinv;have hlen:o.length<=2:=by rw [j3];exact Jn (List.length_filter_le _ _) (by rw [Kj];omega)
    refine⟨fun hj=> ?_,fun hj=> ?_⟩
    . have hj':j.toNat<(dG (l.getD 0 [])).length:=by omega
      have hst: ∀v,v=((dG (l.getD 0 [])).take (j.toNat+1)).filter kV->dV l 0 (j+1) v:=fun v hv=>by
       unfold dV;rw [show(j+1).toNat=j.toNat+1 by omega];exact⟨rfl,by omega,by omega,hv⟩
      have htk:=Bn hj';rw [aG (n:=j+1) (by omega) (by omega)];refine⟨⟨j1,hj⟩,hj',b3 _ (uk hj'),fun hs=>⟨hst _ ?_,by omega⟩,fun hs=> ?_⟩
      . rw [htk,Y7,j3];simp only [Q3,yd,decide_eq_false (show¬gn ((dG (l.getD 0 [])).getD j.toNat d0) y1<0 by omega),Jr,if_false,List.filter_nil,Kw]
      . have hin:kV ((dG (l.getD 0 [])).getD j.toNat d0)=true:=by rw [yd,decide_eq_true hs]
        obtain⟨r,hr⟩:=JP hj' hin;rw [<-dO,<-j3]at hr;have hadd:o++[(dG (l.getD 0 [])).getD j.toNat d0]=((dG (l.getD 0 [])).take (j.toNat+1)).filter kV:=by
         rw [htk,Y7,j3];simp only [Q3,hin,if_true,List.filter_nil]
        have hst2:=hst _ hadd;have hkl:=congrArg List.length hr;simp only [Y0,Jc]at hkl;refine⟨by unfold iz;exact⟨rfl,rfl⟩,fun at'=>⟨fun hc=> ?_,fun hc=> ?_⟩⟩
        . unfold iz at hc;have hat:=hc.1;have elt: ∀(i:Nat) (v:ao),i<o.length+1->(o++[v]).getD i d0=if i<o.length then o.getD i d0 else if i-o.length=0 then v else o.getD (i-o.length-1) d0:=fun i v hi=>by
           rw [gD hi]
           by_cases h:i<o.length
           . rw [if_pos h,if_pos h]
           . rw [if_neg h,if_neg h,if_pos (by omega)]
          refine⟨fun h0=> ?_,fun h0=> ?_⟩
          . rw [aG (n:=at'-1) (by omega) (by omega)];have h1:o.length=1:=by omega
            have hpre:=(k2 (by omega)).1;rw [hr]at hpre;have g0:(o++(dG (l.getD 0 [])).getD j.toNat d0::r).getD 0 d0=o.getD 0 d0:=by rw [xP,if_pos (by omega)]
            have g1:(o++(dG (l.getD 0 [])).getD j.toNat d0::r).getD 1 d0=(dG (l.getD 0 [])).getD j.toNat d0:=by rw [xP,if_neg (by omega),h1];rfl
            rw [g0,g1]at hpre;refine⟨by omega,by omega,by rw [show(at'-1).toNat=0 by omega];exact hpre,by omega,hat,by omega,hst2,by omega,fun i hi=> ?_⟩;exact VF (elt i _ hi)
          . have h1:o.length=0:=by omega
            exact⟨by omega,hat,by omega,hst2,by omega,fun i hi=>VF (elt i _ hi)⟩
        . unfold iz at hc;exact absurd hc.2 (by simp)
    . unfold ia;rw [aG (n:=0+1) (by omega) (by omega)];refine⟨.inr ⟨rfl,?_⟩,by omega⟩;rw [j3,dO,Jz (by omega)]
  . unfold ia at hinv;obtain⟨rfl,ho⟩:=hinv.resolve_left (by omega);have hol:=congrArg List.length ho;refine⟨by unfold gw;exact⟨by omega,by omega,by rw [ho];exact(gr _).symm⟩,fun i m hm=> ?_⟩;unfold gw at hm;obtain⟨m1,m2,m3⟩:=hm;have hml:m.length=(ec (l.getD 0 [])).length:=by rw [m3,Cz]
    refine⟨fun hi=>⟨?_,fun m2' he=> ?_⟩,fun hi=> ?_⟩
    . unfold iO
      by_cases hc:i=0/\m.length=2
      . have hm0:m=ec (l.getD 0 []):=by rw [m3,hc.1];exact gr _
        refine .inr ⟨hc.1,hc.2,hc.2,by unfold vc;rfl,3000,by omega,?_⟩;rw [hm0];exact(k2 (by omega)).2
      . exact .inl ⟨hc,rfl⟩
    . unfold iO at he;have eW:=aG (n:=i+1) (by omega) (by omega);rcases he with⟨hc,rfl⟩|⟨rfl,c1,c2,c3,k,hk,c4⟩
      . rw [eW];refine⟨fun h=>absurd (show i=0/\m2'.length=2 by omega) hc,fun h=> ?_⟩
        suffices F:m2'=pj i.toNat (oD (ec (l.getD 0 [])) i.toNat) by
         have G:=OP m1 (by omega) b4 F;rw [eW]at G;exact G
        rw [<-m3];unfold pj;split
        . unfold yK;rw [if_neg (by omega)]
        . rfl
      . refine⟨fun h=> ?_,fun h=>by rw [eW]at h;omega⟩;have z1:((0:Int)+1).toNat=1:=rfl;have hg:=zd c4;have z0:(0:Int).toNat=0:=rfl;rw [eW,z1,z0];unfold zK at hg;refine⟨by omega,by omega,by omega,by omega,⟨(zj hg.1).2,(zj hg.2).1⟩,fun hs=> ?_,fun hs=> ?_⟩
        . have hd:jR (m2'.getD 0 d0,m2'.getD 1 d0)=false:=by rw [FO,decide_eq_false (show¬_ by exact Int.not_lt.2 hs)]
          obtain⟨⟨j,hj,s1⟩,s2,s3⟩:=IA c4 hk hd;have eS:ke (m2'.getD 0 d0,m2'.getD 1 d0)=(ai (m2'.getD 0 d0),ai (m2'.getD 1 d0)):=by unfold ke;rfl
          rw [eS]at s1 s2 s3;have elt: ∀i,i<m2'.length->((m2'.set 0 (ai (m2'.getD 0 d0))).set 1 (ai (m2'.getD 1 d0))).getD i d0=if i=1 then ai (m2'.getD 1 d0)else if i=0 then ai (m2'.getD 0 d0)else m2'.getD i d0:=fun i hi=>by
           rw [bo (by rw [Ks];omega),bo hi]
          have g0:=elt 0 (by omega);have g1:=elt 1 (by omega);rw [if_neg (by omega),if_pos rfl]at g0;rw [if_pos rfl]at g1;refine⟨by omega,by omega,hg.1,by omega,by omega,hg.2,by omega,by omega,by omega,by omega,?_,?_,fun i hi=>VF (elt i hi)⟩
          . unfold iO;refine .inr ⟨rfl,c1,by rw [Ks,Ks];exact c2,?_,j,by omega,?_⟩
            . rw [g0,g1,<-c3,<-s2]
            . rw [g0,g1];exact s1
          . unfold W7;rw [g0,g1];exact s3
        . have hd:jR (m2'.getD 0 d0,m2'.getD 1 d0)=true:=by rw [FO,decide_eq_true hs]
          rw [Ic hd]at c3
          suffices F:m2'=pj (0:Int).toNat (oD (ec (l.getD 0 [])) (0:Int).toNat) by
           have G:=OP (by omega) (by omega) b4 F;rw [eW,z0]at G;exact G
          rw [z0,<-show m=oD (ec (l.getD 0 [])) 0 from m3];unfold pj;rw [if_pos rfl];unfold yK;rw [if_pos c1,<-c3];exact WC c2
    . have hb:m=aC (l.getD 0 []):=by rw [m3,uS];congr 1;omega
      rw [hb];exact⟨rfl,fun i hi=>⟨⟨rfl,fun j hj=>⟨J9,rfl,fun _ _=>rfl⟩⟩,J9,⟨rfl,fun _ _=>rfl⟩,rfl,J9,⟨rfl,fun _ _=>rfl⟩,rfl⟩⟩
theorem k353 :aH Tryz.prog Wi:=av k354 hm Tryz.func353 (by kernel_rfl) (by kernel_rfl) sQ.ok (by kernel_rfl) (fun a=>XI a) fun a hp=>by
 have h:SU a:=by
  rw [<-Mz];(conv=>zeta);simp only [aA]
  try dsimp only at hp
  simp [-List.getD_eq_getElem?_getD,Rv,Nj,Vv,setN1,ZQ];exact g353 hp
 exact h
end Go.Proofs.Big
