import Derived.Test.YtpjiopgakifhaaaGreatZV
import Derived.Test.YtpjiopgakifhaaaGreatZG
import Derived.Test.YtpjiopgakifhaaaGreatZH
namespace Go.Proofs.Big
set_option linter.unusedVariables false
set_option linter.unusedSimpArgs false
open Go Go.Sx Go.Proofs Go.RowKit
set_option linter.unusedSectionVars false
set_option maxRecDepth 100000
def pV (p:List Int):SV:= .aI 2 p.length fun i=>[SV.bool (decide (p.getD i 0<0)),SV.aI 1 (dz (p.getD i 0)).length fun j=>[SV.int .u32 ((dz (p.getD i 0)).getD j 0)]]
def nI (v:Nat->Int) (i:Nat):SV:=match i with
 |0=>pV (ae [v 0,v 2,0])
 |1=>pV (ae [v 1,v 3,0])
 |2=>pV (ae [v 4])
 |3=>pV (B8 (v 0) (v 2) (v 4))
 |4=>pV (ae [v 5])
 |5=>pV (B8 (v 1) (v 3) (v 5))
 |6=>pV (bX (B8 (v 0) (v 2) (v 4)) (B8 (v 0) (v 2) (v 4)))
 |7=>pV (bX (B8 (v 1) (v 3) (v 5)) (B8 (v 1) (v 3) (v 5)))
 |8=>pV (lnC (v 0) (v 2) (v 4) (v 1) (v 3) (v 5))
 |9=>pV (ae [v 6*v 6])
 |10=>pV (lnP (v 0) (v 2) (v 4) (v 1) (v 3) (v 5) (v 6*v 6))
 |_=> .aq
theorem O9 (v:Nat->Int) (i:Nat):LZ (nI v i)=true:=by
 unfold nI
 split<;>rfl
@[reducible] def gS (v:Nat->Int):bW:=⟨v,nI v,O9 v⟩
section
variable [bW]
abbrev gP (a:List Int):Prop:= ∀i,i<a.length->true=true/\aj.ak (aj.enc (a.getD i 0))
theorem xk (a:List Int):gP a:=fun i _=>⟨rfl,aj.kW _⟩
theorem RZ (a b:List Int):QY [pV a,pV b]=some ((gP a/\gP b)/\bj 100000 a/\bj 100000 b,pS (dJ a b)):=by
 have h:QY [pV a,pV b]=some ((gP a/\gP b)/\bj 100000 (ah aj a.length fun i=>aj.enc (a.getD i 0))/\bj 100000 (ah aj b.length fun i=>aj.enc (b.getD i 0)),pS (dJ (ah aj a.length fun i=>aj.enc (a.getD i 0)) (ah aj b.length fun i=>aj.enc (b.getD i 0)))):=by kernel_rfl
 rw [h,rK,rK]
theorem Qg (a b:List Int):Rg [pV a,pV b]=some ((gP a/\gP b)/\bj 100000 a/\bj 100000 b,pS (dZ a b)):=by
 have h:Rg [pV a,pV b]=some ((gP a/\gP b)/\bj 100000 (ah aj a.length fun i=>aj.enc (a.getD i 0))/\bj 100000 (ah aj b.length fun i=>aj.enc (b.getD i 0)),pS (dZ (ah aj a.length fun i=>aj.enc (a.getD i 0)) (ah aj b.length fun i=>aj.enc (b.getD i 0)))):=by kernel_rfl
 rw [h,rK,rK]
theorem RK (a b:List Int):QW [pV a,pV b]=some ((gP a/\gP b)/\bj 100000 a/\bj 100000 b/\a.length+b.length<=1000,pS (bX a b)):=by
 have h:QW [pV a,pV b]=some ((gP a/\gP b)/\bj 100000 (ah aj a.length fun i=>aj.enc (a.getD i 0))/\bj 100000 (ah aj b.length fun i=>aj.enc (b.getD i 0))/\(ah aj a.length fun i=>aj.enc (a.getD i 0)).length+(ah aj b.length fun i=>aj.enc (b.getD i 0)).length<=1000,pS (bX (ah aj a.length fun i=>aj.enc (a.getD i 0)) (ah aj b.length fun i=>aj.enc (b.getD i 0)))):=by kernel_rfl
 rw [h,rK,rK]
end
section
variable (v : Nat -> Int)
end
end Go.Proofs.Big
namespace Go.Proofs.Big
set_option linter.unusedVariables false
set_option linter.unusedSimpArgs false
open Go Go.Sx Go.Proofs Go.RowKit
set_option linter.unusedSectionVars false
set_option maxRecDepth 100000
section
variable [bW]
theorem H6 {p:List Int} {k n:Nat} (ht:p=ae p) (hn:tl p<=n) (h1:n<=1000) (hc: ∀i,i<n->((p.getD i 0).natAbs:Int)<pw k):bj k p/\p.length<=n:=by
 have hl:p.length<=n:=by rw [ht,bn];exact hn
 refine⟨jd (by omega) fun z hz=> ?_,hl⟩
 obtain⟨i,hi,rfl⟩:=List.getElem_of_mem hz
 have:=hc i (by omega)
 rwa [List.getD_eq_getElem?_getD,List.getElem?_eq_getElem hi]at this
theorem K0 (p:List Int):ae p=ae (ae p):=(CF fun i=>ck p i).symm
theorem H4 (p q:List Int):bX p q=ae (bX p q):=by
 have e:bX p q=if tl p=0\/tl q=0 then []else ae (tu p q (tl p+tl q-1) (tl p)):=by unfold bX;rfl
 rw [e]
 split
 . rw [dq];exact List.take_nil.symm
 . exact K0 _
theorem lJ {a b:Int} {A B:Nat} (ha:a.natAbs<=A) (hb:b.natAbs<=B):(a*b).natAbs<=A*B:=by
 rw [Int.natAbs_mul];exact Nat.mul_le_mul ha hb
theorem RW :pw 2=18446744073709551616:=by rw [fE];rfl
end
structure FQ (v : Nat -> Int) : Prop where
 p0 : (v 0).natAbs <= 20000
 p1 : (v 1).natAbs <= 20000
 v2 : (v 2).natAbs <= 700
 v3 : (v 3).natAbs <= 700
 c4 : (v 4).natAbs <= 2500
 c5 : (v 5).natAbs <= 2500
 n6 : 1 <= v 6 /\ v 6 <= 900
def kX (v:Nat->Int):Prop:=nN (v 6*v 6-((v 0-v 4)*(v 0-v 4)+(v 1-v 5)*(v 1-v 5))) (-(2*((v 0-v 4)*v 2+(v 1-v 5)*v 3))) (-(v 2*v 2+v 3*v 3))
section
variable [bW] {v : Nat -> Int} (h : FQ v)
include h
theorem Ty (x w c:Int) (hx:x.natAbs<=20000) (hw:w.natAbs<=700) (hc:c.natAbs<=2500):lR [x,w,0]/\lR [c]/\bj 100000 (ae [x,w,0])/\bj 100000 (ae [c])/\(bj 2 (B8 x w c)/\(B8 x w c).length<=2)/\bj 2 (bX (B8 x w c) (B8 x w c)):=by
 have f1:lR [x,w,0]:=by
  unfold lR;refine⟨by simp,fun z hz=> ?_⟩
  simp at hz
  rcases hz with rfl|rfl|rfl<;>(unfold fN;omega)
 have f2:lR [c]:=by
  unfold lR;refine⟨by simp,fun z hz=> ?_⟩
  simp at hz;subst hz;unfold fN;omega
 obtain⟨a1,a2,a3⟩:=uH x w c
 have hd:(x-c).natAbs<=22500:=by omega
 have hp2:=RW
 refine⟨f1,f2,an (fZ (wZ f1)) (by omega),an (fZ (wZ f2)) (by omega),?_,?_⟩
 . refine H6 (xp _ _) a3 (by omega) fun i hi=> ?_
   rcases(show i=0\/i=1 by omega)with rfl|rfl
   . rw [a1];omega
   . rw [a2];omega
 . obtain⟨s1,s2,s3,s4⟩:=Yg a3
   rw [a1,a2]at s2
   rw [a1]at s1
   rw [a2]at s3
   have m1:=lJ hd hd
   have m2:=lJ hd hw
   have m3:=lJ hw hw
   refine(H6 (n:=3) (H4 _ _) (nA s4) (by omega) fun i hi=> ?_).1
   rcases(show i=0\/i=1\/i=2 by omega)with rfl|rfl|rfl
   . rw [s1];omega
   . rw [s2];omega
   . rw [s3];omega
end
abbrev I (n:Int):SV:= .int .i64 n
abbrev S (v:SV):ar:= .s v
abbrev Y (i:Nat) (lo hi:Int):SV:= .sy .i64 (.v i) lo hi
def px :=Y 0 (-20000) 20000
def py :=Y 1 (-20000) 20000
def vx :=Y 2 (-700) 700
def vy :=Y 3 (-700) 700
def cx :=Y 4 (-2500) 2500
def cy :=Y 5 (-2500) 2500
def sz :=Y 6 1 900
def yh (v:SV):SV:= .aI 1 1 (aY 1 [[v]])
def Pg (oq:SV):List (Nat×List SV×SV):=[
 (230,[.aI 1 3 (aY 1 [[px],[vx],[I 0]])], .tg 0),(230,[.aI 1 3 (aY 1 [[py],[vy],[I 0]])], .tg 1),
 (230,[yh cx], .tg 2),(229,[.tg 0, .tg 2], .tg 3),(230,[yh cy], .tg 4),(229,[.tg 1, .tg 4], .tg 5),
 (292,[.tg 3, .tg 3], .tg 6),(292,[.tg 5, .tg 5], .tg 7),(289,[.tg 6, .tg 7], .tg 8),(230,[yh (.sy .i64 (.mul (.v 6) (.v 6)) 1 810000)], .tg 9),(229,[.tg 9, .tg 8], .tg 10),
 (86,[yh (yh (.tg 10))], .bp [oq,I 0])]
def IZ (b:Bool):SV:=match b with
 |true=> .tt
 |false=> .ff
theorem Lb [bW] (b:Bool):oZ (.bp [.bool b,iS 0]) (.bp [IZ b,I 0]):=by
 intro ro o w hr
 obtain⟨vs,hv,hs,hh⟩:=jt hr
 rw [hv]
 refine .bp _ _ _ hs fun i sv hi=> ?_
 match i,hi with
 |0,hi=>
  have:=hh 0 (.bool b) rfl
  simp only [List.getElem?_cons_zero,Option.some.injEq]at hi
  subst hi
  cases h:vs.getD 0 undef with
  |bool c=>
   rw [h]at this
   cases this
   cases b
   . exact .ff _
   . exact .tt _
  |_=>rw [h]at this;cases this
 |1,hi=>exact hh 1 sv hi
 |i+2,hi=>simp at hi
theorem VE (v:Nat->Int) (i j:Nat) (lo hi lo' hi':Int):letI:=gS v;U6 ([.aI 1 3 (aY 1 [[.sy .i64 (.v i) lo hi],[.sy .i64 (.v j) lo' hi'],[.int .i64 0]])].map (iF 14))=some ((∀k,k<3->((aF .i64).dec (((aY 1 [[SV.sy .i64 (.v i) lo hi],[.sy .i64 (.v j) lo' hi'],[.int .i64 0]]) k).map (iF 13))).isSome=true/\(aF .i64).ak (((aY 1 [[SV.sy .i64 (.v i) lo hi],[.sy .i64 (.v j) lo' hi'],[.int .i64 0]]) k).map (iF 13)))/\lR [v i,v j,0],pV (ae [v i,v j,0])):=by
 rfl
theorem Vs (v:Nat->Int) (e:XE) (lo hi:Int):letI:=gS v;U6 ([yh (.sy .i64 e lo hi)].map (iF 14))=some ((∀k,k<1->((aF .i64).dec (((aY 1 [[SV.sy .i64 e lo hi]]) k).map (iF 13))).isSome=true/\(aF .i64).ak (((aY 1 [[SV.sy .i64 e lo hi]]) k).map (iF 13)))/\lR [e.den],pV (ae [e.den])):=by
 rfl
theorem AD (v:Nat->Int) (i j t:Nat) (lo hi lo' hi':Int) (ht:nI v t=pV (ae [v i,v j,0])) (hf:lR [v i,v j,0]): @Fact (gS v) Tryz.prog 230 [.aI 1 3 (aY 1 [[.sy .i64 (.v i) lo hi],[.sy .i64 (.v j) lo' hi'],[.int .i64 0]])] (.tg t):=by
 letI:=gS v
 exact nu Qp.1 14 (VE v i j lo hi lo' hi') ⟨fun k hk=>by
  rcases(show k=0\/k=1\/k=2 by omega)with rfl|rfl|rfl<;>exact⟨rfl,trivial⟩,hf⟩ rfl (uw ht rfl)
theorem vF (v:Nat->Int) (e:XE) (t:Nat) (lo hi:Int) (ht:letI:=gS v;nI v t=pV (ae [e.den])) (hf:letI:=gS v;lR [e.den]): @Fact (gS v) Tryz.prog 230 [yh (.sy .i64 e lo hi)] (.tg t):=by
 letI:=gS v
 exact nu Qp.1 14 (Vs v e lo hi) ⟨fun k hk=>by
  have:k=0:=by omega
  subst this;exact⟨rfl,trivial⟩,hf⟩ rfl (uw ht rfl)
theorem Cl (v:Nat->Int) (i j t:Nat) {a b:List Int} (hi:nI v i=pV a) (hj:nI v j=pV b) (ht:nI v t=pV (dJ a b)) (ha:bj 100000 a) (hb:bj 100000 b): @Fact (gS v) Tryz.prog 229 [.tg i, .tg j] (.tg t):=by
 letI:=gS v
 refine nu Uc.1 14 (p:=(gP a/\gP b)/\bj 100000 a/\bj 100000 b) (r:=pS (dJ a b)) ?_ ⟨⟨xk a,xk b⟩,ha,hb⟩ rfl (uw ht rfl)
 show QY [nI v i,nI v j]=_
 rw [hi,hj,RZ]
theorem Rq (v:Nat->Int) (i j t:Nat) {a b:List Int} (hi:nI v i=pV a) (hj:nI v j=pV b) (ht:nI v t=pV (dZ a b)) (ha:bj 100000 a) (hb:bj 100000 b): @Fact (gS v) Tryz.prog 289 [.tg i, .tg j] (.tg t):=by
 letI:=gS v
 refine nu UL.1 14 (p:=(gP a/\gP b)/\bj 100000 a/\bj 100000 b) (r:=pS (dZ a b)) ?_ ⟨⟨xk a,xk b⟩,ha,hb⟩ rfl (uw ht rfl)
 show Rg [nI v i,nI v j]=_
 rw [hi,hj,Qg]
theorem I4 (v:Nat->Int) (i t:Nat) {a:List Int} (hi:nI v i=pV a) (ht:nI v t=pV (bX a a)) (ha:bj 100000 a) (hl:a.length<=500): @Fact (gS v) Tryz.prog 292 [.tg i, .tg i] (.tg t):=by
 letI:=gS v
 refine nu WJ.1 14 (p:=(gP a/\gP a)/\bj 100000 a/\bj 100000 a/\a.length+a.length<=1000) (r:=pS (bX a a)) ?_ ⟨⟨xk a,xk a⟩,ha,ha,by omega⟩ rfl (uw ht rfl)
 show QW [nI v i,nI v i]=_
 rw [hi,RK]
def qC (v:Nat->Int):List Int:=lnP (v 0) (v 2) (v 4) (v 1) (v 3) (v 5) (v 6*v 6)
theorem Vr (v:Nat->Int) {b:Bool} (hp:jM [[qC v]]) (hb:(dD [[qC v]]).2=b): @Fact (gS v) Tryz.prog 86 [yh (yh (.tg 10))] (.bp [IZ b,I 0]):=by
 letI:=gS v
 have h:c86 ([yh (yh (.tg 10))].map (iF 14))=some (_/\jM [[ah aj (qC v).length fun i=>aj.enc ((qC v).getD i 0)]], .bp [.bool (dD [[ah aj (qC v).length fun i=>aj.enc ((qC v).getD i 0)]]).2,iS 0]):=rfl
 rw [rK]at h
 refine nu k86.1 14 h ⟨fun i hi=> ?_,hp⟩ rfl ?_
 . have:i=0:=by omega
   subst this
   refine⟨rfl,fun j hj=> ?_⟩
   have:j=0:=by omega
   subst this
   exact⟨rfl,xk (qC v)⟩
 . rw [hb];exact Lb b
theorem JT {n:Nat} (h:n<18446744073709551616):n<2^200:=Nat.lt_trans h (by decide)
theorem sq_pos {x:Int} (h:x≠0):0<x*x:=by
 rcases(show x<0\/0<x by omega)with h|h
 . exact Int.mul_pos_of_neg_of_neg h h
 . exact Int.mul_pos h h
theorem Ep [bW] {v:Nat->Int} (h:FQ v):jM [[qC v]]/\((dD [[qC v]]).2=true↔kX v):=by
 unfold qC kX
 rw [UG]
 obtain⟨h0,h1,h2,h3,h4,h5,h6⟩:=h
 have d0:(v 0-v 4).natAbs<=22500:=by omega
 have d1:(v 1-v 5).natAbs<=22500:=by omega
 have hn:(v 6).natAbs<=900:=by omega
 have m1:=lJ d0 d0
 have m2:=lJ d1 d1
 have m3:=lJ d0 h2
 have m4:=lJ d1 h3
 have m5:=lJ h2 h2
 have m6:=lJ h3 h3
 have m7:=lJ hn hn
 refine Gi (fun t ht=>JT ?_) ?_
 . simp only [List.mem_cons,List.not_mem_nil,or_false]at ht
   rcases ht with rfl|rfl|rfl<;>omega
 . by_cases z2:v 2=0
   . by_cases z3:v 3=0
     . right;rw [z2,z3];simp
     . left
       have:=sq_pos z3
       have:=YT (v 2)
       omega
   . left
     have:=sq_pos z2
     have:=YT (v 3)
     omega
theorem Hx {v:Nat->Int} (h:FQ v) {b:Bool} (hb:kX v↔b=true): @A8 (gS v) Tryz.prog (Pg (IZ b)):=by
 letI:=gS v
 obtain⟨x1,x2,x3,x4,x5,x6⟩:=Ty h (v 0) (v 2) (v 4) h.p0 h.v2 h.c4
 obtain⟨y1,y2,y3,y4,y5,y6⟩:=Ty h (v 1) (v 3) (v 5) h.p1 h.v3 h.c5
 have hn:(v 6).natAbs<=900:=by have:=h.n6;omega
 have m7:=lJ hn hn
 have f9:lR [v 6*v 6]:=by
  unfold lR;refine⟨by simp,fun z hz=> ?_⟩
  simp at hz;subst hz;unfold fN;omega
 obtain⟨w1,w2⟩:=Ep h
 have e2:lR [v 4]:=x2
 refine .cons (AD v 0 2 0 _ _ _ _ rfl x1) (.cons (AD v 1 3 1 _ _ _ _ rfl y1) (.cons (vF v (.v 4) 2 _ _ rfl x2) (.cons (Cl v 0 2 3 rfl rfl rfl x3 x4) (.cons (vF v (.v 5) 4 _ _ rfl y2) (.cons (Cl v 1 4 5 rfl rfl rfl y3 y4)
  (.cons (I4 v 3 6 rfl rfl (an x5.1 (by omega)) (by omega)) (.cons (I4 v 5 7 rfl rfl (an y5.1 (by omega)) (by omega)) (.cons (Rq v 6 7 8 rfl rfl rfl (an x6 (by omega)) (an y6 (by omega)))
  (.cons (vF v (.mul (.v 6) (.v 6)) 9 _ _ rfl f9) (.cons (Cl v 9 8 10 rfl rfl rfl (an (fZ (wZ f9)) (by omega)) ?_) (.cons (Vr v w1 ?_) .nil)))))))))))
 . have hC:bj 100000 (lnC (v 0) (v 2) (v 4) (v 1) (v 3) (v 5)):=by
    obtain⟨a1,a2,a3⟩:=uH (v 0) (v 2) (v 4)
    obtain⟨b1,b2,b3⟩:=uH (v 1) (v 3) (v 5)
    obtain⟨s1,s2,s3,s4⟩:=Yg a3
    obtain⟨t1,t2,t3,t4⟩:=Yg b3
    unfold bj at x6 y6
    have g: ∀(l:List Int),(∀z∈l,(z.natAbs:Int)<pw 2)-> ∀i,((l.getD i 0).natAbs:Int)<pw 2:=fun l hl i=>by
     by_cases hi:i<l.length
     . exact hl _ (Zd hi)
     . rw [ll (by omega)];have:=aE 2;simpa using this
    have gx:=g _ x6.2
    have gy:=g _ y6.2
    refine(H6 (n:=3) (k:=100000) (AN _ _) (nA fun i hi=>by rw [om,s4 i hi,t4 i hi];rfl) (by omega) fun i _=> ?_).1
    rw [om]
    have a:=gx i
    have b:=gy i
    have p3:pw 3=4294967296*pw 2:=bD 2
    have:=gT (a:=3) (b:=100000) (by omega)
    omega
   exact hC
 . cases b with
   |true=>exact w2.2 (hb.2 rfl)
   |false=>
    cases hf:(dD [[qC v]]).2 with
    |true=>exact absurd (hb.1 (w2.1 hf)) (by decide)
    |false=>rfl
end Go.Proofs.Big
namespace Go.Proofs.Big
set_option linter.unusedVariables false
set_option linter.unusedSimpArgs false
open Go Go.Sx Go.Proofs Go.RowKit Go.Proofs.Top
set_option linter.unusedSectionVars false
set_option maxRecDepth 100000
def tk :=Y 7 0 100
def lane :List SV:=[.str [108],I 0,cx,cy,sz,I 5]
def mw :SV:= .agg [S (I 100),S (I 1),S (I 0),S (I 0),S (I 0),S (I 0),S (I 0),S .aq,S .aq,S .aq,S .aq,S .aq,S .aq,S .aq,S (.aI 6 1 (aY 6 [lane])),S .aq,S .aq,S .aq]
def kD (e:Bool):SV:=match e with
 |true=> .emp
 |false=> .aq
def mv (e:Bool):SV:= .agg [S tk,S (.aI 7 1 (aY 7 [[I 1,I 0,I 0,px,py,vx,vy]])),S (kD e),S (kD e),S .aq,S (.int .u32 0)]
def Ap :SV:= .agg [S (.int .u32 0),S (I 0),S (I 0)]
def Gn (b:Bool):SV:= .bp [.agg [S (.sy .i64 (.add (.v 7) (.c 1)) 1 101),S (.aI 7 1 (aY 7 [[I 1,I 0,I 0, .sy .i64 (.add (.v 0) (.v 2)) (-20700) 20700, .sy .i64 (.add (.v 1) (.v 3)) (-20700) 20700,vx,vy]])),S .emp,S .emp,S .aq,S (.int .u32 0)],
 .agg [S .aq,S (.int .u64 (if b then 32 else 0)),S .aq,S (I 0)],I 0]
noncomputable def XL [bW] (b:Bool):DX:=XT.more (Pg (IZ b))
end Go.Proofs.Big
