import Derived.Test.YtpjiopgakifhaaaGreatZU
import Derived.Test.YtpjiopgakifhaaaGreatZT
namespace Go.Proofs.Big
set_option linter.unusedVariables false
set_option linter.unusedSimpArgs false
open Go Go.Sx Go.Proofs
set_option linter.unusedSectionVars false
variable [bW]
theorem At.zero (e:Nat):At y0 0 e:=by unfold y0;exact⟨by simp,by simp,by simp⟩
theorem Iv.kV {q:ao} {n:Int} {e:Nat} (h:Iv q n e):kV q=decide (n+1<2^e\/aW (cY q.1 q.2.2)≠0):=by
 have n1:=h.n1
 have n0:=h.n0
 rw [yd,vf,h.ex,(At.one e).cmp h.lo,(At.one e).cmp h.hi,jj (show 0<2^e-n by omega),decide_eq_decide]
 rcases(show n+1<2^e\/n+1=2^e by omega)with h1|h1
 . rw [jj (show 0<2^e-(n+1) by omega)];simp [h1]
 . rw [show(2:Int)^e-(n+1)=0 by omega,gV]
   by_cases h2:aW (cY q.1 q.2.2)=0
   . simp [h2];omega
   . simp [h2]
theorem Iv.Zk {q:ao} {n:Int} {e:Nat} (h:Iv q n e) (he:e<=29990) (hp:bj 1000 q.1) (hl:q.1.length<=100):eJ q y1:=by
 have n0:=h.n0
 have n1:=h.n1
 unfold eJ ql
 exact⟨⟨h.lo.dp n0 (by omega) (by omega),h.hi.dp (by omega) n1 (by omega),h.hi.bM (by omega) n1 (by omega) hp hl⟩,Hq,(At.one 0).bM (by decide) (by decide) (by omega) hp hl⟩
theorem Iv.ql {q:ao} {n:Int} {e:Nat} (h:Iv q n e) (he:e<=29990) (hp:bj 1000 q.1) (hl:q.1.length<=100):ql q:=by
 have n0:=h.n0
 have n1:=h.n1
 unfold Big.ql
 exact⟨h.lo.dp n0 (by omega) (by omega),h.hi.dp (by omega) n1 (by omega),h.hi.bM (by omega) n1 (by omega) hp hl⟩
theorem JM {p:List Int} {k:Nat} (hk:k<=100) (h3:(bE p).length<=3) (hs:bj k (bE p)) (ht:ae (bE p)=bE p):EE (aO p):=by
 have hd:=jg hs h3
 have hB:wB p=ag (aX (bE p)):=by unfold wB;rfl
 have sB:bj (k+1) (wB p):=by rw [hB];exact bP hd.1
 have lB:(wB p).length<=2:=by rw [hB];exact Nat.le_trans (cN _) (by omega)
 have tB:ae (wB p)=wB p:=by rw [hB];exact dP _
 rw [sD]
 unfold EE
 split
 . exact⟨by simp,by simp⟩
 . generalize wB p=B at*
   have hF:bj 1000 (bE p)/\(bE p).length<=100:=⟨an hs (by omega),by omega⟩
   have hBB:bj 1000 B/\B.length<=100:=⟨an sB (by omega),by omega⟩
   rcases(show B.length=0\/B.length=1\/B.length=2 by omega)with h|h|h
   . rw [h,zh]
     exact⟨by simp,fun q hq=>by rw [List.mem_singleton.1 hq];exact hF⟩
   . rw [h,rN,if_neg (by omega),zh]
     refine⟨by simp,fun q hq=> ?_⟩
     simp at hq
     rcases hq with rfl|rfl
     . exact hF
     . exact hBB
   . obtain⟨n1,n2,n3,n4⟩:=rY (an hs (show k<=k+1 by omega)) sB h3 tB (by omega)
     rw [h,rN,if_neg (by omega),rN,zh]
     have hR:bj 1000 (dH (dh (bE p) B))/\(dH (dh (bE p) B)).length<=100:=⟨an n1 (by omega),by omega⟩
     split
     . refine⟨by simp,fun q hq=> ?_⟩
       simp at hq
       rcases hq with rfl|rfl
       . exact hF
       . exact hBB
     . refine⟨by simp,fun q hq=> ?_⟩
       simp at hq
       rcases hq with rfl|rfl|rfl
       . exact hF
       . exact hBB
       . exact hR
structure AB (p : List Int) (oq : Prop) : Prop where
 ok : okB p
 len : (aC p).length <= 2
 iv : ∀ q ∈ aC p, q.1.length <= 3 /\ bj 1000 q.1 /\ ∃ n e, Iv q n e /\ e <= 7000
 res : (jE [p] (aC p) (aC p).length 0).2 = true ↔ oq
theorem AB.none {p:List Int} {oq:Prop} (h1:je p y0 y1 1073741824) (h2:(dG p).length<=2) (h3: ∀a∈dG p,eJ a y1) (hk:b6 p=[]) (hn: ¬oq):AB p oq:=by
 have hb:=brk_0 hk
 refine⟨by unfold okB;exact⟨h1,h2,h3,by rw [hk];exact okK_0⟩,by rw [hb];simp,by rw [hb];simp,?_⟩
 rw [hb,show([]:List ao).length=0 from rfl,V8]
 simp [hn]
theorem AB.one {p:List Int} {oq:Prop} {q:ao} (h1:je p y0 y1 1073741824) (h2:(dG p).length<=2) (h3: ∀a∈dG p,eJ a y1) (hk:b6 p=[q]) {n:Int} {e:Nat} (hv:Iv q n e) (he:e<=3000) (hq:C1 q) (hs:bj 1000 q.1) (hl:q.1.length<=3)
 (hr:0<aW (cY p (bb (pH q).2.2 y1))↔oq):AB p oq:=by
 have hb:=Z1 hk
 have hq':=hq
 rw [rm]at hq'
 obtain⟨m,e',a1,a2,a3,a4⟩:=uX hv hq'
 rw [<-m9]at a1 a4
 refine⟨by unfold okB;exact⟨h1,h2,h3,by rw [hk];exact YW hq⟩,by rw [hb];simp,?_,?_⟩
 . rw [hb]
   intro r hr
   rw [List.mem_singleton.1 hr,a4]
   exact⟨hl,hs,m,e',a1,by omega⟩
 . rw [hb,show([pH q]:List ao).length=1 from rfl,Uy]
   by_cases h:0<aW (cY p (bb (pH q).2.2 y1))
   . rw [if_pos h];simp [hr.1 h]
   . rw [if_neg h];simp;exact fun h'=>h (hr.2 h')
theorem AB.two {p:List Int} {oq:Prop} {q r s t:ao} (h1:je p y0 y1 1073741824) (h2:(dG p).length<=2) (h3: ∀a∈dG p,eJ a y1) (hk:b6 p=[q,r]) (hst:vc (q,r)=(s,t)) (g1:il r q) (g2:po jR ke zK 3000 (q,r)) (g3:C1 s) (g4:C1 t)
 {n m:Int} {e:Nat} (hs:Iv s n e) (ht:Iv t m e) (he:e<=4000) (ks:bj 1000 s.1/\s.1.length<=3) (kt:bj 1000 t.1/\t.1.length<=3) (hr:0<aW (cY p (bb (pH s).2.2 (pH t).2.1))) (hn:oq):AB p oq:=by
 have hb:=XP hk hst
 have g3':=g3
 have g4':=g4
 rw [rm]at g3' g4'
 obtain⟨a,f,a1,a2,a3,a4⟩:=uX hs g3'
 obtain⟨b,g,b1,b2,b3,b4⟩:=uX ht g4'
 rw [<-m9]at a1 a4 b1 b4
 refine⟨by unfold okB;exact⟨h1,h2,h3,by rw [hk];exact aah hst g1 g2 g3 g4⟩,by rw [hb];simp,?_,?_⟩
 . rw [hb]
   intro x hx
   simp at hx
   rcases hx with rfl|rfl
   . rw [a4];exact⟨ks.2,ks.1,a,f,a1,by omega⟩
   . rw [b4];exact⟨kt.2,kt.1,b,g,b1,by omega⟩
 . rw [hb,show([pH s,pH t]:List ao).length=2 from rfl,WI _ _ _ hr]
   simp [hn]
structure jx (x y z a b c μ : Int) : Prop where
 sz : bj 7 [x, y, z]
 pp : eZ [x, y, z] = [a, b, c]
 c0 : 0 < c
 mu : μ < 0
 ex : x = μ * a
 ey : y = μ * b
 ez : z = μ * c
theorem QE {x y z:Int} (hs:bj 7 [x,y,z]) (hz:z<0): ∃a b c μ,jx x y z a b c μ:=by
 obtain⟨l3,hc,m,m0,sm,hm⟩:=CB (p:=[x,y,z]) rfl (by show z≠0;omega)
 refine⟨_,_,_,m,hs,Yq l3,hc,?_,hm 0,hm 1,hm 2⟩
 rw [show aW (([x,y,z]:List Int).getD 2 0)= -1 from gH hz]at sm
 exact N3.1 sm
section
variable {x y z a b c μ : Int} (h : jx x y z a b c μ)
include h
theorem jx.pre :gp [x,y,z]:=by unfold gp;exact⟨an h.sz (by omega),by simp⟩
theorem jx.szF :bj 7 [a,b,c]:=by rw [<-h.pp];exact yU h.sz
theorem jx.cK :(c.natAbs:Int)<pw 7/\(b.natAbs:Int)<pw 7:=by
 have:=h.szF
 unfold bj at this
 exact⟨this.2 c (by simp),this.2 b (by simp)⟩
theorem jx.low :Z5 [a,b,c] (2^2882)/\c<2^2880:=by
 obtain⟨k1,k2⟩:=h.cK
 rw [fE]at k1 k2
 have q1:=uA (show 32*7+2<=2880 by omega)
 have q2:=uA (show 2880<=2882 by omega)
 have q3:(2:Int)^(32*7+2)=2^(32*7)*4:=fF ..
 refine⟨.inl ⟨a,b,c,rfl,?_⟩,?_⟩<;>omega
theorem jx.qf (n:Int) (e:Nat):Big.qf x y z n e=Big.qf a b c n e*μ:=by
 unfold Big.qf;rw [h.ex,h.ey,h.ez];grind
theorem jx.pos {w:Int×Int} {n:Int} {e:Nat} (hw:At w n e):0<aW (cY [x,y,z] w)↔Big.qf a b c n e<0:=by
 rw [AP hw,h.qf]
 have hm:=h.mu
 rcases ue (Big.qf a b c n e*μ)with⟨f1,f2⟩|⟨f1,f2⟩|⟨f1,f2⟩<;>rw [f2]
 . refine⟨fun h=>by omega,fun h=> ?_⟩
   have:=Int.mul_pos_of_neg_of_neg h hm;omega
 . refine⟨fun h=>by omega,fun h=> ?_⟩
   have:=Int.mul_pos_of_neg_of_neg h hm;omega
 . refine⟨fun _=> ?_,fun _=>by omega⟩
   rcases(show Big.qf a b c n e<0\/0<=Big.qf a b c n e by omega)with h|h
   . exact h
   . have:=Int.mul_nonpos_of_nonneg_of_nonpos h (Int.le_of_lt hm);omega
theorem jx.disc :y*y-4*x*z=μ*μ*(b*b-4*a*c):=by rw [h.ex,h.ey,h.ez];grind
theorem jx.sum :x+y+z=μ*(a+b+c)/\y+2*z=μ*(b+2*c):=by rw [h.ex,h.ey,h.ez];constructor<;>grind
end
def nN (x y z:Int):Prop:=0<x\/0<x+y+z\/(0<y/\y+2*z<0/\0<y*y-4*x*z)
theorem Pz {m t:Int} (hm:m<0):0<m*t↔t<0:=by
 have:=xh (x:= -t) (k:= -m) (by omega)
 rw [Int.neg_mul_neg,Int.mul_comm]at this;omega
theorem LO {m t:Int} (hm:m<0):m*t<0↔0<t:=by
 have:=Pz (m:=m) (t:= -t) hm
 rw [Int.mul_neg]at this;omega
theorem jx.oq {x y z a b c μ:Int} (h:jx x y z a b c μ) (hx:x<0) (hy:0<y):nN x y z↔a+b+c<0\/(0<b+2*c/\0<b*b-4*a*c):=by
 obtain⟨s1,s2⟩:=h.sum
 have hm:=h.mu
 have hmm:0<μ*μ:=Int.mul_pos_of_neg_of_neg hm hm
 unfold nN
 rw [s1,s2,h.disc,Pz hm,LO hm,Int.mul_comm (μ*μ),xh hmm]
 constructor
 . rintro(h|h|⟨_,h,h2⟩)
   . omega
   . exact .inl h
   . exact .inr ⟨h,h2⟩
 . rintro(h|⟨h,h2⟩)
   . exact .inr (.inl h)
   . exact .inr (.inr ⟨hy,h,h2⟩)
theorem jx.sgnF {x y z a b c μ:Int} (h:jx x y z a b c μ) (hx:x<0) (hy:0<y):0<a/\b<0:=by
 have hm:=h.mu
 rw [h.ex]at hx
 rw [h.ey]at hy
 exact⟨(LO hm).1 hx,(Pz hm).1 hy⟩
theorem CH (p:List Int) (h: ¬(aO p).length<2) {f t:Int} (hf:ep (aO p) y0=f) (ht:ep (aO p) y1=t):dG p=bJ 3000 (aO p) y0 y1 f t:=by
 rw [zQ,z8,if_neg h]
 show bJ 3000 (aO p) y0 y1 (ep (aO p) y0) (ep (aO p) y1)=_
 rw [hf,ht]
theorem rl {p:List Int} (hp:gp p) (hs:EE (aO p)) {f t:Int} (hf:ep (aO p) y0=f) (ht:ep (aO p) y1=t) (h:CA 3000 (aO p) y0 y1 f t):je p y0 y1 1073741824:=by
 unfold je
 refine⟨hp,rfl, .inr ⟨hs.pre (At.zero 0) (by decide) (by decide) (by omega),hs.pre (At.one 0) (by decide) (by decide) (by omega),?_⟩⟩
 rw [hf,ht];exact h
theorem Xi.len {l:List (List Int)} {a b c:Int} (h:Xi l a b c):l.length=3/\l.getD 0 []=[a,b,c]:=by
 obtain⟨B,w,m,rfl,_⟩:=h.ex;exact⟨rfl,rfl⟩
theorem jx.chn {x y z a b c μ:Int} (h:jx x y z a b c μ) (hz:z<0) (hD:b*b-4*a*c≠0):Xi (aO [x,y,z]) a b c/\EE (aO [x,y,z]):=by
 have e0:(eZ [x,y,z]).getD 0 0=a:=by rw [h.pp];rfl
 have e1:(eZ [x,y,z]).getD 1 0=b:=by rw [h.pp];rfl
 have e2:(eZ [x,y,z]).getD 2 0=c:=by rw [h.pp];rfl
 obtain⟨hf,B,w,m,k1,k2,k3,k4,k5,k6⟩:=H3 h.pre rfl (show z≠0 by omega) (by rw [e0,e1,e2];exact hD)
 rw [e0,e1,e2]at k2
 rw [e1]at k5
 rw [e2]at k6
 rw [h.pp]at k1
 refine⟨⟨h.c0,B,w,m,k1,k2,k3,k4,k5,k6⟩,?_⟩
 have hs:=h.szF
 rw [<-h.pp,<-hf]at hs
 exact JM (k:=7) (by omega) (by rw [hf,h.pp];simp) hs (by rw [hf];exact zX _)
theorem jx.QN {x y z a b c μ:Int} (h:jx x y z a b c μ) (hx:x<0) (hy:0<y) (hz:z<0) (hD:b*b-4*a*c<0):AB [x,y,z] (nN x y z):=by
 obtain⟨hl,hs⟩:=h.chn hz (by omega)
 obtain⟨l3,_⟩:=hl.len
 have f:=IS hl hD (At.zero 0)
 have t:=IS hl hD (At.one 0)
 have hr:=CH _ (by omega) f t
 have hk:CA 3000 (aO [x,y,z]) y0 y1 1 1:=BQ.2 ⟨by omega,by omega, .inl rfl⟩
 rw [jF,if_pos (show(1-1:Int)=0 from rfl)]at hr
 refine AB.none (rl h.pre hs f t hk) (by rw [hr];simp) (by rw [hr];simp) (by rw [dO,hr];rfl) ?_
 rw [h.oq hx hy]
 have hc:=h.c0
 have hF:0<a+b+c:=by
  have s:=BR a b c 1 0
  have s1:=YT (qg b c 1 0)
  have e1:Big.qf a b c 1 0=a+b+c:=by unfold Big.qf;grind
  have e2:(2:Int)^0*2^0=1:=rfl
  rw [e2,Int.mul_one,e1]at s
  rcases(show a+b+c<=0\/0<a+b+c by omega)with h|h
  . have:=Int.mul_nonpos_of_nonneg_of_nonpos (show(0:Int)<=4*c by omega) h;omega
  . exact h
 omega
end Go.Proofs.Big
namespace Go.Proofs.Big
set_option linter.unusedVariables false
set_option linter.unusedSimpArgs false
open Go Go.Sx Go.Proofs
set_option linter.unusedSectionVars false
variable [bW]
theorem Me (g:List Int) (i:Nat) (s:List Int×List Int):(ph g i s).2.length=s.2.length:=by
 unfold ph;dsimp only;rw [List.length_set,fo]
theorem FF (g:List Int): ∀(n:Nat) (s:List Int×List Int),(oY g n s).2.length=s.2.length
 |0,s=>by rw [pK]
 |n+1,s=>by rw [pE,FF g n,Me]
theorem Og (p g:List Int):(mz p g).length<=tl p-g.length+1:=by
 unfold mz
 refine Nat.le_trans (cN _) ?_
 rw [FF]
 unfold qN
 simp
theorem RN {k:Nat} (hk:k<=90) {P:List Int} (h3:P.length<=3) (hs:bj k P) (h: ¬(eU P (aX P)).length<2):bj (k+1) (eU P (aX P))/\(eU P (aX P)).length<=P.length:=by
 obtain⟨d1,d2⟩:=jg hs h3
 have hl:=cN (aX P)
 have hPl:=cN P
 have e0:eU P (aX P)=iN (lT (ag (aX P)).length (ag P) (ag (aX P))):=by unfold eU;rfl
 rw [e0,iH]at h
 rw [e0,iH]
 have sA:=bP hs
 have sB:=bP d1
 have htB:=dP (aX P)
 generalize ag P=A at*
 generalize ag (aX P)=B at*
 have key:lT B.length A B=A\/lT B.length A B=B:=by
  rcases(show B.length=0\/B.length=1\/B.length=2 by omega)with hb|hb|hb
  . rw [hb,mG];exact .inl rfl
  . rw [hb,jb,if_pos (by omega),mG];exact .inr rfl
  . rw [hb,jb,if_pos (by omega),jb]at h⊢
    obtain⟨_,r2,_⟩:=jf (an sA (show k<=k+1 by omega)) sB (by omega) (me htB (by omega))
    split
    . rename_i h0
      rw [if_pos h0,mG]at h
      omega
    . exact .inr rfl
 rcases key with e|e
 . rw [e];exact⟨rf (an sA (by omega)),hPl⟩
 . rw [e];exact⟨rf sB,by omega⟩
theorem QC {k:Nat} (hk:k<=90) {p:List Int} (h1:bj k p) (h3:p.length<=3):bj (3*k+4) (bE p):=by
 have hs:=yU h1
 have hl:=Dw p
 have ht:=zX p
 have hf:bE p=if(eZ p).length<2 then eZ p else if(eU (eZ p) (aX (eZ p))).length<2 then eZ p else mz (eZ p) (eU (eZ p) (aX (eZ p))):=by unfold bE;rfl
 rw [hf]
 generalize eZ p=P at*
 split
 . exact an hs (by omega)
 . split
   . exact an hs (by omega)
   . rename_i h2
     obtain⟨c1,c2⟩:=RN hk (by omega) hs h2
     generalize eU P (aX P)=G at*
     have hq:qN P G<=2:=by unfold qN;have:=cX P;omega
     have hd:bj (3*k+4) (oY G (qN P G) (ae P,List.replicate (qN P G) 0)).2/\(oY G (qN P G) (ae P,List.replicate (qN P G) 0)).2.length=qN P G:=by
      have s0:bj k (ae P):=fZ hs
      rcases(show qN P G=0\/qN P G=1\/qN P G=2 by omega)with e|e|e
      . rw [e,pK];exact⟨np _ _ (by omega),by simp⟩
      . rw [e,pE,pK]
        obtain⟨a1,a2⟩:=nJ (i:=0) s0 (np k 1 (by omega)) c1
        exact⟨an a2 (by omega),by unfold ph;simp [fo]⟩
      . rw [e,pE,pE,pK]
        obtain⟨a1,a2⟩:=nJ (i:=1) s0 (np k 2 (by omega)) c1
        obtain⟨b1,b2⟩:=nJ (i:=0) (r:=(ph G 1 (ae P,List.replicate 2 0)).1) (q:=(ph G 1 (ae P,List.replicate 2 0)).2) a1 a2 c1
        exact⟨an b2 (by omega),by unfold ph;simp [fo]⟩
     have e:mz P G=ag (oY G (qN P G) (ae P,List.replicate (qN P G) 0)).2:=by unfold mz;rfl
     rw [e]
     exact bP hd.1
theorem jx.lin {x y z a b c μ:Int} (h:jx x y z a b c μ) (hz:z<0) (hD:b*b-4*a*c=0):(bE [x,y,z]).length<=2:=by
 have hc:=Gq h.pre rfl (show z≠0 by omega)
 rw [h.pp]at hc
 have hD':([a,b,c]:List Int).getD 1 0*([a,b,c]:List Int).getD 1 0-4*([a,b,c]:List Int).getD 0 0*([a,b,c]:List Int).getD 2 0=0:=hD
 have h2: ¬(eU [a,b,c] (aX [a,b,c])).length<2:=fun h'=>(hc.1 h') hD'
 rw [Bg,h.pp,if_neg (by simp),if_neg h2]
 have:=Og [a,b,c] (eU [a,b,c] (aX [a,b,c]))
 have ht:=cX [a,b,c]
 simp at ht
 omega
theorem jx.N4 {x y z a b c μ:Int} (h:jx x y z a b c μ) (hx:x<0) (hy:0<y) (hz:z<0) (hD:b*b-4*a*c=0):AB [x,y,z] (nN x y z):=by
 have hc:=h.c0
 have hq: ∀n e,0<=Big.qf a b c n e:=fun n e=>by
  have s:=BR a b c n e
  have s1:=YT (qg b c n e)
  rw [hD,Int.zero_mul,Int.add_zero]at s
  rcases(show Big.qf a b c n e<0\/0<=Big.qf a b c n e by omega)with h|h
  . have:=Int.mul_neg_of_pos_of_neg (show(0:Int)<4*c by omega) h;omega
  . exact h
 have hn: ¬nN x y z:=by
  rw [h.oq hx hy]
  have e1:Big.qf a b c 1 0=a+b+c:=by unfold Big.qf;grind
  have:=hq 1 0
  omega
 have hno: ∀{w:Int×Int} {n:Int} {e:Nat},At w n e-> ¬0<aW (cY [x,y,z] w):=fun {w n e} hw h'=>by
  have:=(h.pos hw).1 h'
  have:=hq n e
  omega
 rcases KZ h.pre (h.lin hz hD)with hl|⟨g0,g1,w,k1,k2,k3,k4⟩
 . have hr:dG [x,y,z]=[]:=by rw [zQ,z8,if_pos hl]
   exact AB.none (by unfold je;exact⟨h.pre,rfl, .inl hl⟩) (by rw [hr];simp) (by rw [hr];simp) (by rw [dO,hr];rfl) hn
 . obtain⟨f1,f2,f3⟩:=ma h.pre
   have hs25:=QC (by omega) h.sz (by simp)
   have hs:EE (aO [x,y,z]):=JM (k:=25) (by omega) f1 hs25 f3
   have f:=JG k2 k4 (g0:=g0) (At.zero 0)
   have t:=JG k2 k4 (g0:=g0) (At.one 0)
   rw [<-k3]at f t
   simp only [Int.pow_zero,Int.mul_one,Int.mul_zero,Int.add_zero]at f t
   have hgg:0<g1*g1:=by
    rcases(show g1<0\/0<g1 by omega)with h|h
    . exact Int.mul_pos_of_neg_of_neg h h
    . exact Int.mul_pos h h
   have hadd:(g0+g1)*g1=g0*g1+g1*g1:=by grind
   have l2:(aO [x,y,z]).length=2:=by rw [k3];rfl
   have lg:(aO [x,y,z]).getD 0 []=[g0,g1]:=by rw [k3];rfl
   have hiv:Iv ((aO [x,y,z]).getD 0 [],y0,y1) 0 0:=⟨At.zero 0,At.one 0,by decide,by decide⟩
   have sG:bj 1000 [g0,g1]:=by rw [<-k1];exact an f2 (by omega)
   have low:Z5 [g0,g1] (2^2882):=by
    rw [k1]at hs25
    unfold bj at hs25
    have h1:=hs25.2 g1 (by simp)
    rw [fE]at h1
    have h2:=uA (show 32*(3*7+4)<=2882 by omega)
    exact .inr ⟨g0,g1,rfl,by omega⟩
   by_cases hft:g0*g1<0/\ ¬(g0+g1)*g1<0
   . rw [if_pos hft.1]at f
     rw [if_neg hft.2]at t
     have hk:CA 3000 (aO [x,y,z]) y0 y1 1 0:=BQ.2 ⟨by omega,by omega, .inr (.inl rfl)⟩
     have hr:=CH _ (by omega) f t
     rw [jF,if_neg (show¬(1-0:Int)=0 by decide),if_pos (show(1-0:Int)=1 from rfl),lg]at hr
     rw [lg]at hiv
     have hpre:=rl h.pre hs f t hk
     have h3: ∀q∈dG [x,y,z],eJ q y1:=by
      rw [hr];intro q hq;rw [List.mem_singleton.1 hq]
      exact hiv.Zk (by omega) sG (by simp)
     have hi:=hiv.kV
     by_cases hin:kV ([g0,g1],y0,y1)=true
     . have hkk:b6 [x,y,z]=[([g0,g1],y0,y1)]:=by
        rw [dO,hr,List.filter_cons,hin];rfl
       have he:EC ([g0,g1],y0,y1) 0 0:=⟨hiv,fun _=>by
        rw [hin]at hi
        have hi2:=of_decide_eq_true hi.symm
        have hne:g0+g1≠0:=by
         rcases hi2 with h|h
         . exact absurd h (by decide)
         . rw [show cY [g0,g1] y1=g0+g1 from C7 g0 g1]at h
           intro h0;rw [h0]at h;exact h gV
        show(cY [g0,g1] (0,((0:Nat):Int))<=0/\0<cY [g0,g1] y1)\/_
        rw [C7,Mo]
        simp only [Int.pow_zero,Int.mul_one,Int.mul_zero,Int.add_zero]
        rcases(show g1<0\/0<g1 by omega)with h|h
        . right
          have:=hft.1
          have a1:0<g0:=by
           rcases(show g0<=0\/0<g0 by omega)with h2|h2
           . have:=Int.mul_nonneg_of_nonpos_of_nonpos h2 (Int.le_of_lt h);omega
           . exact h2
          have a2:g0+g1<=0:=by
           rcases(show g0+g1<=0\/0<g0+g1 by omega)with h2|h2
           . exact h2
           . have:=Int.mul_neg_of_pos_of_neg h2 h;omega
          omega
        . left
          have:=hft.1
          have a1:g0<0:=by
           rcases(show g0<0\/0<=g0 by omega)with h2|h2
           . exact h2
           . have:=Int.mul_nonneg h2 (Int.le_of_lt h);omega
          have a2:0<=g0+g1:=by
           rcases(show g0+g1<0\/0<=g0+g1 by omega)with h2|h2
           . have:=Int.mul_neg_of_neg_of_pos h2 h;omega
           . exact h2
          omega⟩
       have hE:C1 ([g0,g1],y0,y1):=uV (Int.le_refl _) he low sG (by simp) (by omega)
       have hE':=hE
       rw [rm]at hE'
       obtain⟨m,e',a1,a2,a3,a4⟩:=uX hiv hE'
       rw [<-m9]at a1 a4
       have m0:=a1.n0
       have m1:=a1.n1
       obtain⟨b1,b2,b3⟩:=a1.hi.btw (At.one 0) (by omega) m1 (by decide) (by decide)
       exact AB.one hpre (by rw [hr];simp) h3 hkk hiv (by omega) hE sG (by simp) ⟨fun h'=>absurd h' (hno b1),fun h'=>absurd h' hn⟩
     . have hkk:b6 [x,y,z]=[]:=by
        rw [dO,hr,List.filter_cons,if_neg hin];rfl
       exact AB.none hpre (by rw [hr];simp) h3 hkk hn
   . have hft2: ∃k:Int,(k=0\/k=1)/\ep (aO [x,y,z]) y0=k/\ep (aO [x,y,z]) y1=k:=by
      by_cases h1:g0*g1<0
      . rw [if_pos h1]at f
        have h2:(g0+g1)*g1<0:=by
         rcases Decidable.em ((g0+g1)*g1<0)with h|h
         . exact h
         . exact absurd ⟨h1,h⟩ hft
        rw [if_pos h2]at t
        exact⟨1, .inr rfl,f,t⟩
      . rw [if_neg h1]at f
        rw [if_neg (by omega)]at t
        exact⟨0, .inl rfl,f,t⟩
     obtain⟨k,hk01,f',t'⟩:=hft2
     have hk:CA 3000 (aO [x,y,z]) y0 y1 k k:=BQ.2 ⟨by omega,by omega, .inl (by omega)⟩
     have hr:=CH _ (by omega) f' t'
     rw [jF,if_pos (show(k-k:Int)=0 by omega)]at hr
     exact AB.none (rl h.pre hs f' t' hk) (by rw [hr];simp) (by rw [hr];simp) (by rw [dO,hr];rfl) hn
theorem GB (a b c n:Int) (e f:Nat):fX a b c (n*2^f*2) (e+f+1)=fX a b c n e:=by
 have h:=w7 a b c (n*2^f) (e+f) 1
 rw [show(2:Int)^1=2 from rfl]at h
 exact h.trans (w7 a b c n e f)
theorem Xb (a b c n:Int) (e f:Nat) (h:qf a b c n e=0):qf a b c (n*2^f*2) (e+f+1)=0:=by
 have h1:=JH a b c (n*2^f) (e+f) 1
 have h2:=JH a b c n e f
 rw [h,Int.zero_mul]at h2
 rw [h2,Int.zero_mul,show(2:Int)^1=2 from rfl]at h1
 exact h1
theorem jx.C8 {x y z a b c μ:Int} (h:jx x y z a b c μ) (hD:0<b*b-4*a*c) {u w:Int×Int} {n m:Int} {e f:Nat} (hu:At u n e) (hw:At w m f) (n0:0<=n) (n1:n<=2^e) (m0:0<=m) (m1:m<=2^f) (hlt:n*2^f<m*2^e)
 (h1:fX a b c n e=1) (h2:fX a b c m f=1\/Big.qf a b c m f=0):0<aW (cY [x,y,z] (bb u w)):=by
 obtain⟨b1,_,_⟩:=hu.btw hw n0 n1 m0 m1
 refine(h.pos b1).2 ?_
 refine Ec h.c0 hD (n:=n*2^f*2) (k:=m*2^e*2) (by omega) (by omega) (by rw [GB];exact h1) ?_
 rw [Nat.add_comm e f]
 rcases h2 with h2|h2
 . left;rw [GB];exact h2
 . right;exact Xb _ _ _ _ _ _ h2
theorem jx.Qq {x y z a b c μ:Int} (h:jx x y z a b c μ) (hx:x<0) (hy:0<y) (hz:z<0) (hD:0<b*b-4*a*c):AB [x,y,z] (nN x y z):=by
 have hc:=h.c0
 obtain⟨ha,hb⟩:=h.sgnF hx hy
 obtain⟨hl,hs⟩:=h.chn hz (by omega)
 obtain⟨l3,lg⟩:=hl.len
 obtain⟨low,hK⟩:=h.low
 have sF:bj 1000 [a,b,c]:=an h.szF (by omega)
 have hnear:=h.oq hx hy
 have q1:Big.qf a b c 1 0=a+b+c:=by unfold Big.qf;grind
 have g1:qg b c 1 0=b+2*c:=by unfold qg;grind
 have c2:fX a b c 0 0=2:=(Dl hc hD).2 ⟨by have:Big.qf a b c 0 0=a:=(by unfold Big.qf;grind);omega,by have:qg b c 0 0=b:=(by unfold qg;grind);omega⟩
 have hcell:Cell a b c y0 y1 0 0 2 (fX a b c 1 0):=⟨At.zero 0,At.one 0,by decide,by decide,c2,rfl⟩
 obtain⟨s1,s2,s3,s4⟩:=yI hc hD hl hs hK (k:=3000) hcell (by have:=uA (show 2880<=0+3000 by omega);omega) (by omega)
 have f:=BZ hl hD (At.zero 0)
 have t:=BZ hl hD (At.one 0)
 rw [c2]at f
 rw [Int.pow_zero]at t
 have hr:=CH _ (by omega) f t
 have hpre:=rl h.pre hs f t s1
 rw [<-hr]at s2 s3 s4
 rw [lg]at s3 s4
 generalize ht:fX a b c 1 0=k at*
 have v3: ∀{q:ao} {n:Int} {e:Nat} {f t:Int},NC a b c q n e f t->e<=2881->eJ q y1:=fun hq he=>hq.iv.Zk (by omega) (by rw [hq.F];exact sF) (by rw [hq.F];simp)
 rcases kL a b c 1 0 with hk|hk|hk
 ·
  rw [ht]at hk
  subst hk
  obtain⟨f0,gg⟩:=(HY hc hD).1 ht
  rw [q1]at f0
  rw [g1]at gg
  have hN:nN x y z:=hnear.2 (.inr ⟨gg,hD⟩)
  obtain⟨u,v,w,n,e,e1,K1,K2⟩:=s4 rfl
  have N1:NC a b c ([a,b,c],u,v) n e 2 1:=⟨rfl,K1⟩
  have N2:NC a b c ([a,b,c],v,w) (n+1) e 1 0:=⟨rfl,K2⟩
  have n0:=K1.n0
  have n1:=K2.n1
  have he:e<=2881:=by
   have:=zW hc hD K1.f K2.t
   rw [show n+1+1-n=2 by omega]at this
   rcases(show e<=2881\/2882<=e by omega)with h|h
   . exact h
   . have a1:=uA h
     have a2:(2:Int)^2882=2^2880*4:=fF 2880 2
     omega
  have r2:(dG [x,y,z]).length<=2:=by rw [e1];simp
  have r3: ∀q∈dG [x,y,z],eJ q y1:=by
   rw [e1];intro q hq;simp at hq
   rcases hq with rfl|rfl
   . exact v3 N1 he
   . exact v3 N2 he
  have i1:kV ([a,b,c],u,v)=true:=by rw [N1.iv.kV,decide_eq_true_eq];left;omega
  have i2:=N2.iv.kV
  have hw1:n+1+1=2^e->aW (cY [a,b,c] w)=aW (a+b+c):=fun hw=>by
   rw [AP (N2.iv.hi),hw,<-q1]
   have:=JH a b c 1 0 e
   rw [Int.one_mul,Nat.zero_add]at this
   rw [this,eD (Int.mul_pos (ec e) (ec e))]
  by_cases hin:kV ([a,b,c],v,w)=true
  . have hkk:b6 [x,y,z]=[([a,b,c],u,v),([a,b,c],v,w)]:=by
     rw [dO,e1,List.filter_cons,i1,List.filter_cons,hin];rfl
    rw [hin]at i2
    have hin2:=of_decide_eq_true i2.symm
    have hend:n+1+1=2^e->0<a+b+c:=fun hw=>by
     rcases hin2 with h2|h2
     . omega
     . rw [show((([a,b,c],v,w):ao).1)=[a,b,c]from rfl,show((([a,b,c],v,w):ao).2.2)=w from rfl,hw1 hw]at h2
       have:a+b+c≠0:=fun h0=>by rw [h0]at h2;exact h2 gV
       omega
    have hsep:=HU hc hD sF (k:=2882-e) N1 N2 (by omega) (by
     have a1:e+(2882-e)=2882:=by omega
     have a2:(2:Int)^2882=2^2880*4:=fF 2880 2
     rw [a1];omega) (by omega)
    have hsep3:=HU hc hD sF (k:=2999) N1 N2 (by omega) (by
     have a1:=uA (show 2882<=e+2999 by omega)
     have a2:(2:Int)^2882=2^2880*4:=fF 2880 2
     omega) (by omega)
    have hF:=(wP hsep (show 2882-e+1<=3000 by omega)).1
    obtain⟨m1,m2,e',G1,G2,G3,G4,G5⟩:=JD hc hD N1 N2 (by omega) hsep
    rw [<-hF]at G1 G2
    have hst:vc (([a,b,c],u,v),([a,b,c],v,w))=((itF jR ke 3000 (([a,b,c],u,v),([a,b,c],v,w))).1,(itF jR ke 3000 (([a,b,c],u,v),([a,b,c],v,w))).2):=by rw [LF]
    generalize (itF jR ke 3000 (([a,b,c],u,v),([a,b,c],v,w))).1=s at*
    generalize (itF jR ke 3000 (([a,b,c],u,v),([a,b,c],v,w))).2=r at*
    have m10:=G1.cell.n0
    have m20:=G2.cell.n0
    have m21:=G2.cell.n1
    have E1:EC s m1 e':=⟨G1.iv,fun h=>by omega⟩
    have E2:EC r m2 e':=⟨G2.iv,fun h=>by
     have hs0:=hend (by
      have:=K2.n1
      rcases(show n+1+1<2^e\/n+1+1=2^e by omega)with h2|h2
      . have:=G5 h2;omega
      . exact h2)
     left
     rw [G2.F,Dr,Np]
     have:=(EY hc hD).1 G2.cell.f
     unfold Big.qf at this
     omega⟩
    have o1:C1 s:=uV (Int.le_refl _) E1 (by rw [G1.F];exact low) (by rw [G1.F];exact sF) (by rw [G1.F];simp) (by omega)
    have o2:C1 r:=uV (Int.le_refl _) E2 (by rw [G2.F];exact low) (by rw [G2.F];exact sF) (by rw [G2.F];simp) (by omega)
    have o1':=o1
    have o2':=o2
    rw [rm]at o1' o2'
    obtain⟨A,fA,A1,A2,A3,jA,A4,A5,A6⟩:=ui hc hD (.inl ⟨rfl,rfl⟩) G1 o1'
    obtain⟨B,fB,B1,B2,B3,jB,B4,B5,B6⟩:=ui hc hD (.inr ⟨rfl,rfl⟩) G2 o2'
    rw [<-m9]at A1 B1
    have A0:=A1.cell.n0
    have B0:=B1.cell.n0
    have hlt:(A+1)*2^fB<B*2^fA:=by
     subst A4;subst B4
     rw [fF,fF]
     have pe:=ec e'
     have pA:=ec jA
     have pB:=ec jB
     generalize (2:Int)^e'=X at*
     generalize (2:Int)^jA=Y at*
     generalize (2:Int)^jB=Z at*
     have t1:(A+1)*(X*Z)<=(m1+1)*Y*(X*Z):=Int.mul_le_mul_of_nonneg_right A6 (Int.le_of_lt (Int.mul_pos pe pB))
     have t2:m2*Z*(X*Y)<=B*(X*Y):=Int.mul_le_mul_of_nonneg_right B5 (Int.le_of_lt (Int.mul_pos pe pA))
     have t3:(m1+1)*(Y*X*Z)<m2*(Y*X*Z):=Int.mul_lt_mul_of_pos_right G3 (Int.mul_pos (Int.mul_pos pA pe) pB)
     have t4:(m1+1)*Y*(X*Z)=(m1+1)*(Y*X*Z):=by grind
     have t5:m2*Z*(X*Y)=m2*(Y*X*Z):=by grind
     omega
    have hpos:=h.C8 hD A1.cell.hi B1.cell.lo (by omega) A1.cell.n1 B0 (by have:=B1.cell.n1;omega) hlt A1.cell.t (.inl B1.cell.f)
    have hp211:il ([a,b,c],v,w) ([a,b,c],u,v):=by
     have p1:=N1.iv.ql (by omega) sF (by simp)
     have p2:=N2.iv.ql (by omega) sF (by simp)
     unfold il
     refine⟨p2,p1,N2.iv.ex,N1.iv.ex,?_,?_,?_,?_,?_⟩
     . rw [N1.iv.hi.cmp N2.iv.lo,show n+1-(n+1)=0 by omega,gV];omega
     . rw [N2.iv.hi.cmp N1.iv.lo,jj (by omega)];omega
     . rw [N1.iv.lo.cmp N2.iv.lo,gH (by omega)];omega
     . rw [N1.iv.hi.cmp N2.iv.hi,gH (by omega)];omega
     . rw [N2.iv.lo.cmp N1.iv.hi,show n+1-(n+1)=0 by omega,gV];omega
    exact AB.two hpre r2 r3 hkk hst hp211 hsep3 o1 o2 G1.iv G2.iv (by omega) ⟨by rw [G1.F];exact sF,by rw [G1.F];simp⟩ ⟨by rw [G2.F];exact sF,by rw [G2.F];simp⟩ hpos hN
  . have hkk:b6 [x,y,z]=[([a,b,c],u,v)]:=by
     rw [dO,e1,List.filter_cons,i1,List.filter_cons,if_neg hin];rfl
    have hin': ¬(n+1+1<2^e\/aW (cY [a,b,c] w)≠0):=fun h=>hin (by rw [i2,decide_eq_true_eq];exact h)
    have hs0:a+b+c=0:=by
     have h2:n+1+1=2^e:=by omega
     rw [hw1 h2]at hin'
     have:aW (a+b+c)=0:=by omega
     exact ju.1 this
    have E1:EC ([a,b,c],u,v) n e:=⟨N1.iv,fun h=>by omega⟩
    have o1:C1 ([a,b,c],u,v):=uV (Int.le_refl _) E1 low sF (by simp) (by omega)
    have o1':=o1
    rw [rm]at o1'
    obtain⟨A,fA,A1,A2,A3,jA,A4,A5,A6⟩:=ui hc hD (.inl ⟨rfl,rfl⟩) N1 o1'
    rw [<-m9]at A1
    have A0:=A1.cell.n0
    have hpos:=h.C8 hD A1.cell.hi (At.one 0) (by omega) A1.cell.n1 (by decide) (by decide) (by rw [Int.pow_zero];omega) A1.cell.t (.inr (by rw [Int.pow_zero,q1];exact hs0))
    exact AB.one hpre r2 r3 hkk N1.iv (by omega) o1 sF (by simp) ⟨fun _=>hN,fun _=>hpos⟩
 ·
  rw [ht]at hk
  subst hk
  have hcn:=(EY hc hD).1 ht
  rw [q1,g1]at hcn
  have e1:=s3 rfl
  have N1:NC a b c ([a,b,c],y0,y1) 0 0 2 1:=⟨rfl,hcell⟩
  have r2:(dG [x,y,z]).length<=2:=by rw [e1];simp
  have r3: ∀q∈dG [x,y,z],eJ q y1:=by
   rw [e1];intro q hq;rw [List.mem_singleton.1 hq];exact v3 N1 (by omega)
  have i1:kV ([a,b,c],y0,y1)=decide (a+b+c≠0):=by
   rw [N1.iv.kV,decide_eq_decide]
   show((0:Int)+1<2^0\/aW (cY [a,b,c] y1)≠0)↔_
   rw [Dr,Ne,ju,Int.pow_zero]
   omega
  rcases hcn with hcn|⟨hcn,hg⟩
  . have hkk:b6 [x,y,z]=[([a,b,c],y0,y1)]:=by
     rw [dO,e1,List.filter_cons,i1,decide_eq_true (by omega)];rfl
    have E1:EC ([a,b,c],y0,y1) 0 0:=⟨N1.iv,fun _=>by
     right
     show 0<=cY [a,b,c] (0,((0:Nat):Int))/\cY [a,b,c] y1<0
     rw [Dr,Np]
     simp
     omega⟩
    have o1:C1 ([a,b,c],y0,y1):=uV (Int.le_refl _) E1 low sF (by simp) (by omega)
    have o1':=o1
    rw [rm]at o1'
    obtain⟨A,fA,A1,A2,A3,jA,A4,A5,A6⟩:=ui hc hD (.inl ⟨rfl,rfl⟩) N1 o1'
    rw [<-m9]at A1
    have A0:=A1.cell.n0
    have hpos:=h.C8 hD A1.cell.hi (At.one 0) (by omega) A1.cell.n1 (by decide) (by decide) (by rw [Int.pow_zero];omega) A1.cell.t (.inl (by rw [Int.pow_zero];exact ht))
    exact AB.one hpre r2 r3 hkk N1.iv (by omega) o1 sF (by simp) ⟨fun _=>hnear.2 (.inl hcn),fun _=>hpos⟩
  . have hkk:b6 [x,y,z]=[]:=by
     rw [dO,e1,List.filter_cons,i1,decide_eq_false (by omega)];rfl
    exact AB.none hpre r2 r3 hkk (by rw [hnear];omega)
 ·
  rw [ht]at hk
  subst hk
  obtain⟨f0,gg⟩:=(Dl hc hD).1 ht
  rw [q1]at f0
  rw [g1]at gg
  have e1:dG [x,y,z]=[]:=List.eq_nil_of_length_eq_zero (by rw [s2];rfl)
  exact AB.none hpre (by rw [e1];simp) (by rw [e1];simp) (by rw [dO,e1];rfl) (by rw [hnear];omega)
theorem w00 :qx 0 0*(ba 0*ba (2-0))=2:=by kernel_rfl
theorem w10 :qx 1 0*(ba 0*ba (2-0))=2:=by kernel_rfl
theorem w11 :qx 1 1*(ba 1*ba (2-1))=1:=by kernel_rfl
theorem w20 :qx 2 0*(ba 0*ba (2-0))=2:=by kernel_rfl
theorem w21 :qx 2 1*(ba 1*ba (2-1))=2:=by kernel_rfl
theorem w22 :qx 2 2*(ba 2*ba (2-2))=2:=by kernel_rfl
theorem v00 :qx 0 0*(ba 0*ba (0-0))=1:=by kernel_rfl
theorem Sz (x y z:Int):wJ [x,y,z] 0=2*x/\wJ [x,y,z] 1=2*x+y/\wJ [x,y,z] 2=2*(x+y+z):=by
 have g0:([x,y,z]:List Int).getD 0 0=x:=rfl
 have g1:([x,y,z]:List Int).getD 1 0=y:=rfl
 have g2:([x,y,z]:List Int).getD 2 0=z:=rfl
 have l3:(([x,y,z]:List Int).length:Int)-1=2:=by simp
 refine⟨?_,?_,?_⟩
 . rw [qe,tZ,Bh,g0,l3]
   have e:qx ((0:Nat):Int) ((0:Nat):Int)*(ba ((0:Nat):Int)*ba (2-((0:Nat):Int)))=2:=w00
   rw [e];omega
 . rw [qe,show(1:Nat)+1=2 from rfl,tZ,tZ,Bh,g0,g1,l3]
   have e0:qx ((1:Nat):Int) ((0:Nat):Int)*(ba ((0:Nat):Int)*ba (2-((0:Nat):Int)))=2:=w10
   have e1:qx ((1:Nat):Int) ((1:Nat):Int)*(ba ((1:Nat):Int)*ba (2-((1:Nat):Int)))=1:=w11
   rw [e0,e1];omega
 . rw [qe,show(2:Nat)+1=3 from rfl,tZ,tZ,tZ,Bh,g0,g1,g2,l3]
   have e0:qx ((2:Nat):Int) ((0:Nat):Int)*(ba ((0:Nat):Int)*ba (2-((0:Nat):Int)))=2:=w20
   have e1:qx ((2:Nat):Int) ((1:Nat):Int)*(ba ((1:Nat):Int)*ba (2-((1:Nat):Int)))=2:=w21
   have e2:qx ((2:Nat):Int) ((2:Nat):Int)*(ba ((2:Nat):Int)*ba (2-((2:Nat):Int)))=2:=w22
   rw [e0,e1,e2];omega
theorem Tb (x:Int):wJ [x] 0=x:=by
 have g0:([x]:List Int).getD 0 0=x:=rfl
 have l3:(([x]:List Int).length:Int)-1=0:=by simp
 rw [qe,tZ,Bh,g0,l3]
 have e:qx ((0:Nat):Int) ((0:Nat):Int)*(ba ((0:Nat):Int)*ba (0-((0:Nat):Int)))=1:=v00
 rw [e];omega
theorem Uj (x y z:Int):eY [x,y,z]=decide (x<=0/\2*x+y<=0/\x+y+z<=0):=by
 obtain⟨b0,b1,b2⟩:=Sz x y z
 have:eY [x,y,z]=vj [x,y,z] 3:=by unfold eY;rfl
 rw [this,xu,xu,xu,CN,b0,b1,b2,Bool.true_and,<-Bool.decide_and,<-Bool.decide_and,decide_eq_decide]
 omega
theorem alw3 (x y z:Int):eF [x,y,z]=decide ((0<=x/\0<=2*x+y/\0<=x+y+z)/\ ¬(x<=0/\2*x+y<=0/\x+y+z<=0)):=by
 obtain⟨b0,b1,b2⟩:=Sz x y z
 have e1:eF [x,y,z]=(xN [x,y,z] 3&& !eY [x,y,z]):=by unfold eF eY;rfl
 rw [e1,Uj,yE,yE,yE,HL,b0,b1,b2,Bool.true_and,<-Bool.decide_and,<-Bool.decide_and,<-decide_not,<-Bool.decide_and,decide_eq_decide]
 omega
theorem UD (x:Int):eY [x]=decide (x<=0):=by
 have:eY [x]=vj [x] 1:=by unfold eY;rfl
 rw [this,xu,CN,Tb,Bool.true_and]
theorem XK :eY []=true:=by
 have:eY []=vj [] 0:=by unfold eY;rfl
 rw [this,CN]
theorem alw1 (x:Int) (h:0<x):eF [x]=true:=by
 have e1:eF [x]=(xN [x] 1&& !eY [x]):=by unfold eF eY;rfl
 rw [e1,UD,yE,HL,Tb,decide_eq_true (show 0<=x by omega),decide_eq_false (show¬x<=0 by omega)];rfl
theorem beh3 (x y z:Int):gj [x,y,z]=if x=0 then(if y=0 then(if z=0 then 0 else aW z)else aW y)else aW x:=by
 rw [qY,qY,qY,Fl]
theorem Jh (o:List (List Int)) (ts:List ao): ∀k i,jE o ts k i=(d0,false)\/ ∃j,i<=j/\j<i+k/\jE o ts k i=(ts.getD j d0,true)
 |0,i=>by rw [nO];exact .inl rfl
 |k+1,i=>by
  rw [oi]
  split
  . exact .inr ⟨i,by omega,by omega,rfl⟩
  . rcases Jh o ts k (i+1)with h|⟨j,h1,h2,h3⟩
    . exact .inl h
    . exact .inr ⟨j,by omega,by omega,h3⟩
def Good (q:ao):Prop:=pI q/\dp q.2.1/\dp q.2.2
theorem R8 {q:ao} {n:Int} {e:Nat} (h:Iv q n e) (he:e<=7000) (hl:q.1.length<=3) (hs:bj 1000 q.1):Good q:=by
 have n0:=h.n0
 have n1:=h.n1
 have a:=h.lo.dp n0 (by omega) (by omega)
 have b:=h.hi.dp (by omega) n1 (by omega)
 unfold Good pI
 exact⟨⟨bu hs (by omega),(oe a).1,(oe b).1⟩,a,b⟩
theorem of0 :JQ (0,0)=([0,1],(0,0),(0,0)):=by
 rw [CY]
 have:eV 0 0=(0,0):=by unfold eV;rw [if_pos rfl]
 rw [this];rfl
theorem IF :dp (0,0):=by
 have z2:=aE 10000
 unfold dp
 refine⟨?_,by decide,by decide⟩
 show(0:Int)<_;omega
theorem OB :Good (JQ (0,0)):=by
 rw [of0]
 unfold Good pI
 refine⟨⟨Ir (by simp) fun z hz=> ?_,(oe IF).1,(oe IF).1⟩,IF,IF⟩
 simp at hz
 rcases hz with rfl|rfl
 . exact qs
 . exact SH
theorem rv {p:List Int} {oq:Prop} (hl:p.length<=9) (hs: ∀z∈p,z.natAbs<2^200) (h1:lP [p]) (h2:(aJ [p]).2=true->Good (aJ [p]).1) (h3:(aJ [p]).2=true↔oq):jM [[p]]/\((dD [[p]]).2=true↔oq):=by
 have hf:(dD [[p]]).2=(aJ [p]).2/\((dD [[p]]).2=true->(dD [[p]]).1=(aJ [p]).1):=by
  rw [vE,yO]
  cases h:(aJ [p]).2 with
  |true=>rw [if_pos rfl];exact⟨h,fun _=>rfl⟩
  |false=>rw [if_neg (by decide)];exact⟨rfl,fun h=>by cases h⟩
 refine⟨?_,by rw [hf.1];exact h3⟩
 unfold jM
 refine⟨?_,?_,fun h=> ?_⟩
 . unfold HD
   refine⟨by simp,fun c hc=> ?_⟩
   rw [List.mem_singleton.1 hc]
   refine⟨by simp,fun q hq=> ?_⟩
   rw [List.mem_singleton.1 hq]
   exact⟨hl,hs⟩
 . unfold sR
   refine⟨by simp,fun c hc=> ?_,fun i j hij hj=> ?_⟩
   . rw [List.mem_singleton.1 hc]
     exact⟨h1,fun h=>(h2 h).2⟩
   . simp at hj;omega
 . rw [hf.2 h]
   rw [hf.1]at h
   exact(h2 h).1
theorem sz7 {p:List Int} (hl:p.length<=9) (hs: ∀z∈p,z.natAbs<2^200):bj 7 p:=by
 refine jd (by omega) fun z hz=> ?_
 have:=hs z hz
 have h9:(2:Nat)^200<=2^(32*7):=by decide
 have h10:((2^(32*7):Nat):Int)=(2:Int)^(32*7):=by norm_cast
 rw [fE]
 omega
theorem F9 {x y z:Int} (hs: ∀t∈[x,y,z],t.natAbs<2^200) (hz:z<0):jM [[[x,y,z]]]/\((dD [[[x,y,z]]]).2=true↔nN x y z):=by
 have h7:=sz7 (by simp) hs
 have ht:ae [x,y,z]=[x,y,z]:=iP (.inr (by rw [aN];show z≠0;omega))
 have h350:eO [x,y,z]:=by unfold eO;exact⟨an h7 (by omega),by simp⟩
 obtain⟨a,b,c,μ,hq⟩:=QE h7 hz
 have hR:eY [x,y,z]=false->eF [x,y,z]=false->gj [x,y,z]<=0->AB [x,y,z] (nN x y z):=fun h1 h2 h3=>by
  rw [Uj,decide_eq_false_iff_not]at h1
  rw [alw3,decide_eq_false_iff_not]at h2
  rw [beh3]at h3
  have hx:x<0:=by
   rcases ue x with⟨f1,f2⟩|⟨f1,f2⟩|⟨f1,f2⟩
   . exact f1
   . rw [if_pos f1]at h3
     by_cases hy:y=0
     . omega
     . rw [if_neg hy]at h3
       rcases ue y with⟨g1,g2⟩|⟨g1,g2⟩|⟨g1,g2⟩<;>omega
   . rw [if_neg (by omega)]at h3;omega
  have hy:0<y:=by omega
  rcases(show b*b-4*a*c<0\/b*b-4*a*c=0\/0<b*b-4*a*c by omega)with hD|hD|hD
  . exact hq.QN hx hy hz hD
  . exact hq.N4 hx hy hz hD
  . exact hq.Qq hx hy hz hD
 have h285:lP [[x,y,z]]:=oA h350 ht fun h1 h2 h3=>by
  have r:=hR h1 h2 h3
  exact⟨r.ok,r.len,fun q hq=>(r.iv q hq).2.2⟩
 refine rv (by simp) hs h285 ?_ ?_
 . intro hb
   cases h1:eY [x,y,z]with
   |true=>rw [xf ht h1]at hb;cases hb
   |false=>
    by_cases h2:eF [x,y,z]=true\/0<gj [x,y,z]
    . rw [DD ht h1 h2];exact OB
    . have ha:eF [x,y,z]=false:=by
       cases h:eF [x,y,z]with
       |true=>exact absurd (.inl h) h2
       |false=>rfl
      have hbb:gj [x,y,z]<=0:=by
       rcases(show gj [x,y,z]<=0\/0<gj [x,y,z] by omega)with h|h
       . exact h
       . exact absurd (.inr h) h2
      have r:=hR h1 ha hbb
      rw [Ge ht h1 ha hbb]at hb⊢
      rcases Jh [[x,y,z]] (aC [x,y,z]) (aC [x,y,z]).length 0 with h|⟨j,j1,j2,h⟩
      . rw [h]at hb;cases hb
      . rw [h]
        obtain⟨r1,r2,n,e,r3,r4⟩:=r.iv _ (uk (l:=aC [x,y,z]) (i:=j) (by omega))
        exact R8 r3 r4 r1 r2
 . cases h1:eY [x,y,z]with
   |true=>
    rw [xf ht h1]
    rw [Uj,decide_eq_true_eq]at h1
    refine⟨fun h=>(by cases h),fun h=> ?_⟩
    exfalso
    rcases h with h|h|⟨h,h',h''⟩
    . omega
    . omega
    . have a1:y*y+4*x*(-z)<=y*y-2*y*(-z):=by
       have:(2*x+y)*(-z)<=0:=Int.mul_nonpos_of_nonpos_of_nonneg h1.2.1 (by omega)
       have e1:(2*x+y)*(-z)=2*x*(-z)+y*(-z):=by grind
       have e2:4*x*(-z)=2*(2*x*(-z)):=by grind
       have e3:2*y*(-z)=2*(y*(-z)):=by grind
       omega
      have a2:y*(y+2*z)<0:=Int.mul_neg_of_pos_of_neg h h'
      have a3:y*(y+2*z)=y*y-2*y*(-z):=by grind
      have a4:y*y-4*x*z=y*y+4*x*(-z):=by grind
      omega
   |false=>
    by_cases h2:eF [x,y,z]=true\/0<gj [x,y,z]
    . rw [DD ht h1 h2]
      refine⟨fun _=> ?_,fun _=>rfl⟩
      have key:0<x\/(x=0/\0<y)\/0<x+y+z:=by
       rcases h2 with h2|h2
       . rw [alw3,decide_eq_true_eq]at h2;omega
       . rw [beh3]at h2
         by_cases hx:x=0
         . rw [if_pos hx]at h2
           by_cases hy:y=0
           . rw [if_pos hy,if_neg (by omega),gH hz]at h2;omega
           . rw [if_neg hy]at h2
             rcases ue y with⟨g1,g2⟩|⟨g1,g2⟩|⟨g1,g2⟩<;>omega
         . rw [if_neg hx]at h2
           rcases ue x with⟨g1,g2⟩|⟨g1,g2⟩|⟨g1,g2⟩<;>omega
      unfold nN
      rcases key with h|⟨h,h'⟩|h
      . exact .inl h
      . by_cases h3:0<x+y+z
        . exact .inr (.inl h3)
        . refine .inr (.inr ⟨h',by omega,?_⟩)
          have:=Int.mul_pos h' h'
          rw [h];simp;omega
      . exact .inr (.inl h)
    . have ha:eF [x,y,z]=false:=by
       cases h:eF [x,y,z]with
       |true=>exact absurd (.inl h) h2
       |false=>rfl
      have hbb:gj [x,y,z]<=0:=by
       rcases(show gj [x,y,z]<=0\/0<gj [x,y,z] by omega)with h|h
       . exact h
       . exact absurd (.inr h) h2
      have r:=hR h1 ha hbb
      rw [Ge ht h1 ha hbb]
      exact r.res
theorem Qk {p:List Int} (h:0<tl p):p.getD (tl p-1) 0≠0:=by
 have:=lQ (p:=p) (by rw [bn];exact h)
 rw [aN,bn,ck]at this
 exact this
theorem nA {p:List Int} {n:Nat} (h: ∀i,n<=i->p.getD i 0=0):tl p<=n:=by
 rcases(show tl p<=n\/n<tl p by omega)with h1|h1
 . exact h1
 . exact absurd (h (tl p-1) (by omega)) (Qk (by omega))
theorem CF {p q:List Int} (h: ∀i,p.getD i 0=q.getD i 0):ae p=ae q:=by
 have e:tl p=tl q:=by
  have h1:tl p<=tl q:=nA fun i hi=>by rw [h];exact fK hi
  have h2:tl q<=tl p:=nA fun i hi=>by rw [<-h];exact fK hi
  omega
 refine List.ext_getElem (by rw [bn,bn,e]) fun i h1 h2=> ?_
 have a:=ck p i
 have b:=ck q i
 rw [List.getD_eq_getElem?_getD,List.getElem?_eq_getElem h1]at a
 rw [List.getD_eq_getElem?_getD,List.getElem?_eq_getElem h2]at b
 simp only [Option.getD_some]at a b
 rw [a,b,h]
theorem om (p q:List Int) (i:Nat):(dZ p q).getD i 0=p.getD i 0+q.getD i 0:=by
 have e:dZ p q=ae (pc p q (max (tl p) (tl q))):=by unfold dZ;rfl
 rw [e,ck]
 by_cases h:i<max (tl p) (tl q)
 . exact KM p q h
 . rw [ll (by rw [pX];omega),fK (p:=p) (by omega),fK (p:=q) (by omega)];rfl
theorem vZ (p q:List Int) (i:Nat):(dJ p q).getD i 0=p.getD i 0-q.getD i 0:=by
 have e:dJ p q=dZ p (dH (ae q)):=by unfold dJ;rfl
 rw [e,om,vS,ck];omega
theorem AN (p q:List Int):dZ p q=ae (dZ p q):=by
 have e:dZ p q=ae (pc p q (max (tl p) (tl q))):=by unfold dZ;rfl
 conv=>lhs;rw [e]
 exact CF fun i=>by rw [e,ck]
theorem xp (p q:List Int):dJ p q=ae (dJ p q):=by
 have e:dJ p q=dZ p (dH (ae q)):=by unfold dJ;rfl
 rw [e];exact AN _ _
theorem Eu {p q:List Int} {j:Nat}: ∀{n:Nat},tl p<=n->mulC p q j n=mulC p q j (tl p)
 |0,h=>by rw [show tl p=0 by omega]
 |n+1,h=>by
  rcases(show tl p=n+1\/tl p<=n by omega)with h1|h1
  . rw [h1]
  . rw [kI,fK h1,Eu h1];simp
theorem yk {p q:List Int} {j:Nat}: ∀{n:Nat},(∀i,i<n->i<=j->p.getD i 0*q.getD (j-i) 0=0)->mulC p q j n=0
 |0,_=>rk _ _ _
 |n+1,h=>by
  rw [kI,yk fun i hi hj=>h i (by omega) hj]
  split
  . rename_i hj;rw [h n (by omega) hj];rfl
  . rfl
theorem FV {p q:List Int} {n:Nat} (h:tl p<=n) (j:Nat):(bX p q).getD j 0=mulC p q j n:=by
 have e:bX p q=if tl p=0\/tl q=0 then []else ae (tu p q (tl p+tl q-1) (tl p)):=by unfold bX;rfl
 rw [e,Eu h]
 split
 . rename_i h0
   rw [yk fun i hi _=> ?_]
   . rfl
   . rcases h0 with h0|h0
     . omega
     . rw [fK (p:=q) (by omega)];simp
 . rw [ck]
   by_cases hj:j<tl p+tl q-1
   . unfold tu
     rw [List.getD_eq_getElem?_getD,List.getElem?_map,List.getElem?_range hj];rfl
   . rw [ll (by rw [xm];omega),yk fun i hi hij=> ?_]
     rw [fK (p:=q) (by omega)];simp
def B8 (x v c:Int):List Int:=dJ (ae [x,v,0]) (ae [c])
theorem uH (x v c:Int):(B8 x v c).getD 0 0=x-c/\(B8 x v c).getD 1 0=v/\tl (B8 x v c)<=2:=by
 have key: ∀i,(B8 x v c).getD i 0=([x,v,0]:List Int).getD i 0-([c]:List Int).getD i 0:=fun i=>by
  unfold B8
  rw [vZ,ck,ck]
 refine⟨by rw [key];rfl,by rw [key];show v-0=v;omega,nA fun i hi=> ?_⟩
 rw [key]
 match i,hi with
 |2,_=>rfl
 |i+3,_=>rfl
theorem Yg {p:List Int} (h:tl p<=2):(bX p p).getD 0 0=p.getD 0 0*p.getD 0 0/\(bX p p).getD 1 0=2*(p.getD 0 0*p.getD 1 0)/\(bX p p).getD 2 0=p.getD 1 0*p.getD 1 0/\ ∀i,3<=i->(bX p p).getD i 0=0:=by
 have key:=fun j=>FV (q:=p) h j
 have e: ∀j,mulC p p j 2=(if 0<=j then p.getD 0 0*p.getD (j-0) 0 else 0)+(if 1<=j then p.getD 1 0*p.getD (j-1) 0 else 0):=fun j=>by
  rw [show(2:Nat)=0+1+1 from rfl,kI,kI,rk]
  simp
 refine⟨?_,?_,?_,fun i hi=> ?_⟩
 . rw [key,e];simp
 . rw [key,e]
   have:=Int.mul_comm (p.getD 1 0) (p.getD 0 0)
   rw [if_pos (by omega),if_pos (by omega)]
   show p.getD 0 0*p.getD 1 0+p.getD 1 0*p.getD 0 0=_
   omega
 . rw [key,e]
   have h2:p.getD 2 0=0:=fK h
   rw [if_pos (by omega),if_pos (by omega)]
   show p.getD 0 0*p.getD 2 0+p.getD 1 0*p.getD 1 0=_
   rw [h2];simp
 . rw [key,e,fK (p:=p) (i:=i-0) (by omega),fK (p:=p) (i:=i-1) (by omega)];simp
def lnC (x v c y w d:Int):List Int:=dZ (bX (B8 x v c) (B8 x v c)) (bX (B8 y w d) (B8 y w d))
def lnP (x v c y w d m:Int):List Int:=dJ (ae [m]) (lnC x v c y w d)
theorem UG (x v c y w d m:Int):lnP x v c y w d m=ae [m-((x-c)*(x-c)+(y-d)*(y-d)),-(2*((x-c)*v+(y-d)*w)),-(v*v+w*w)]:=by
 unfold lnP
 rw [xp]
 obtain⟨a1,a2,a3⟩:=uH x v c
 obtain⟨b1,b2,b3⟩:=uH y w d
 obtain⟨s1,s2,s3,s4⟩:=Yg a3
 obtain⟨t1,t2,t3,t4⟩:=Yg b3
 rw [a1,a2]at s2
 rw [a1]at s1
 rw [a2]at s3
 rw [b1,b2]at t2
 rw [b1]at t1
 rw [b2]at t3
 refine CF fun i=> ?_
 rw [vZ,ck]
 unfold lnC
 rw [om]
 match i with
 |0=>rw [s1,t1];rfl
 |1=>
  rw [s2,t2]
  show 0-(2*((x-c)*v)+2*((y-d)*w))= -(2*((x-c)*v+(y-d)*w))
  omega
 |2=>
  rw [s3,t3]
  show 0-(v*v+w*w)= -(v*v+w*w)
  omega
 |i+3=>rw [s4 _ (by omega),t4 _ (by omega)];rfl
theorem Gi {x y z:Int} (hs: ∀t∈[x,y,z],t.natAbs<2^200) (hz:z<0\/(z=0/\y=0)):jM [[ae [x,y,z]]]/\((dD [[ae [x,y,z]]]).2=true↔nN x y z):=by
 rcases hz with hz|⟨rfl,rfl⟩
 . rw [show ae [x,y,z]=[x,y,z]from iP (.inr (by rw [aN];show z≠0;omega))]
   exact F9 hs hz
 . have hn:nN x 0 0↔0<x:=by unfold nN;omega
   by_cases hx:x=0
   . have ht:ae [x,0,0]=[]:=by
      have:tl [x,0,0]=0:=wQ.2 (by rw [hx];simp)
      rw [dq,this];rfl
     have hh:ae ([]:List Int)=[]:=by rw [dq];exact List.take_nil
     rw [ht]
     have hb:=xf hh XK
     refine rv (by simp) (by simp) (oA (by unfold eO;exact⟨sz7 (by simp) (by simp)|>fun h=>an h (by omega),by simp⟩) hh fun h=>by rw [XK]at h;cases h) (fun h=>by rw [hb]at h;cases h) ?_
     rw [hb,hn]
     exact⟨fun h=>(by cases h),fun h=>by omega⟩
   . have ht:ae [x,0,0]=[x]:=by
      have a1:tl [x,0,0]<=1:=nA fun i hi=>by
       match i,hi with
       |1,_=>rfl
       |2,_=>rfl
       |i+3,_=>rfl
      have a2:tl [x,0,0]≠0:=fun h=>hx (wQ.1 h x (by simp))
      rw [dq,show tl [x,0,0]=1 by omega];rfl
     have hh:ae [x]=[x]:=iP (.inr (by rw [aN];exact hx))
     have hs1: ∀t∈[x],t.natAbs<2^200:=fun t h=>hs t (by simp at h;simp [h])
     have h7:=sz7 (by simp) hs1
     have h350:eO [x]:=by unfold eO;exact⟨an h7 (by omega),by simp⟩
     rw [ht]
     rcases(show x<=0\/0<x by omega)with h|h
     . have hv:eY [x]=true:=by rw [UD];exact decide_eq_true h
       have hb:=xf hh hv
       refine rv (by simp) hs1 (oA h350 hh fun h'=>by rw [hv]at h';cases h') (fun h'=>by rw [hb]at h';cases h') ?_
       rw [hb,hn]
       exact⟨fun h=>(by cases h),fun h'=>by omega⟩
     . have hv:eY [x]=false:=by rw [UD];exact decide_eq_false (by omega)
       have ha:=alw1 x h
       have hb:=DD hh hv (.inl ha)
       refine rv (by simp) hs1 (oA h350 hh fun _ h'=>by rw [ha]at h';cases h') (fun _=>by rw [hb];exact OB) ?_
       rw [hb,hn]
       exact⟨fun _=>h,fun _=>rfl⟩
end Go.Proofs.Big
