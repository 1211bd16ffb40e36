import Derived.Test.YtpjiopgakifhaaaGreatRA
import Derived.Test.YtpjiopgakifhaaaGreatRX1
import Derived.Test.YtpjiopgakifhaaaGreatRU
import Derived.Test.YtpjiopgakifhaaaGreatRX3
set_option linter.unusedSectionVars false
set_option linter.unusedSimpArgs false
set_option linter.unusedVariables false
set_option maxRecDepth 100000
namespace Go.Proofs.Big
open Go Go.Sx Go.Proofs
variable [bW]
structure ResQ (p : List Int) (a w h : Int) : Prop where
 ok : okB p
 len : (aC p).length <= 2
 iv : ∀ q ∈ aC p, q.1.length <= 5 /\ bj 1000 q.1 /\ ∃ n e, Iv q n e /\ e <= 7000
 res : ∃ q n e, Tb [p] (aC p) (aC p).length 0 = (q, true) /\ NQ a w h q n e 2 1 /\ n + 1 < 2 ^ e /\ e <= 100 /\ q.1 = eZ p
section
variable {a w h : Int} (A : Arc a w h)
include A
theorem horP{l:Ω}{y:Int×Int}{n:Int}{e:Nat}(b:Eo 5 l λi=> -(q0f a w h i))(c:At y n e):aW (cY l y)=aW (-((yv a w h n e-cv e)*(yv a w h n e+cv e))):=by
 have d: -(q0f a w h 4)≠0:=by have:=A.tops.1;omega
 rw[prp_hor5 (b.len (n:=4) d) b c,hor5]
 congr 1
 simp only[q0f,yv,cv];generalize (2:Int)^e=E
 grind
theorem between_q{p:Ω}(z:Eo 5 p λi=> -(q0f a w h i)){u v:Int×Int}{n m:Int}{e f:Nat}(B:At u n e)(C:At v m f)(d:0<=n)(D:n<=2^e)(E:0<=m)(F:m<=2^f)(G:n*2^f<m*2^e)(b:xh a w h n e<=1)(H: -cv f<=yv a w h m f):0<aW (cY p (dj u v)):=by
 obtain⟨J,N,_⟩:=B.btw C d D E F;have K:=gg f;have j:=gg e;have O:0<=n*2^f:=Ja d (Ju K);have up:∀(x:Int)(g k:Nat),xh a w h (x*2^k*2) (g+k+1)=xh a w h x g:=λx g k=>by
  have b:=aah (a:=a) (w:=w) (h:=h) (n:=x*2^k) (e:=g+k) 1;rw[show(2:Int)^1=2 from rfl]at b;exact b.trans (aah k)
 have R:=up n e f;obtain⟨f1,f2⟩:=xv A (n:=n*2^f*2) (e:=e+f+1) (by omega) (m:=n*2^f+m*2^e) (by omega) (by omega);have L:=up m f e;rw[JS f e]at L;have o:=aaK (e+f+1);have q: -cv (e+f+1)<yv a w h (n*2^f+m*2^e) (e+f+1):=by
  rcases(show-cv (e+f+1)<yv a w h (n*2^f+m*2^e) (e+f+1)\/yv a w h (n*2^f+m*2^e) (e+f+1)<= -cv (e+f+1) by omega)with c|c
  . exact c
  . exfalso;have X:=aaH.2 c;obtain⟨Z,g2⟩:=xv A (n:=n*2^f+m*2^e) (e:=e+f+1) (by omega) (m:=m*2^e*2) (by omega) (by omega);have M:=yv_up (a:=a) (w:=w) (h:=h) (n:=m) (e:=f) e;have r:=yv_up (a:=a) (w:=w) (h:=h) (n:=m*2^e) (e:=f+e) 1;have v1:=cv_up (e:=f) e;have y:=cv_up (e:=f+e) 1;rw[show(2:Int)^1=2 from rfl]at r y;rw[JS f e]at M r v1 y;have h5: -(cv f*(2^e*2^e))<=yv a w h m f*(2^e*2^e):=by
     rw[<-Int.neg_mul];exact Jh H (Ju (Je j j))
    omega
 rw[horP A z J,jj (show 0< -((yv a w h (n*2^f+m*2^e) (e+f+1)-cv (e+f+1))*(yv a w h (n*2^f+m*2^e) (e+f+1)+cv (e+f+1))) by
  have:=KC (show yv a w h (n*2^f+m*2^e) (e+f+1)-cv (e+f+1)<0 by omega) (show 0<yv a w h (n*2^f+m*2^e) (e+f+1)+cv (e+f+1) by omega);omega)]
 omega
theorem yv_one:yv a w h 1 0=a+w-h:=by unfold yv;simp
theorem yv_end{n:Int}{e:Nat}(b:n=2^e):yv a w h n e=(a+w-h)*(2^e*2^e):=by rw[b];unfold yv;grind
theorem cv_0:cv 0=100:=by unfold cv;simp
theorem arc_res{p:Ω}(hp:Eo 5 p λi=> -(q0f a w h i))(bb:m6 p)(hs:Shrt (bC p))(d:bj 1000 (eZ p))(L:a+w-h<=99)(bL:100<a\/0<w)(hK:spd w h<2^15):ResQ p a w h:=by
 obtain⟨ca,pF,hl,lg⟩:=aa2 A (.inr hp);have lF:=pF.len A.tops.1;have c2:xh a w h 0 0=2:=aax.2 (by
  have J:yv a w h 0 0=a:=by unfold yv;simp
  have e2:dv w h 0 0=w:=by unfold dv;simp
  have:=A.a0;rw[J,e2,cv_0 A];omega)
 have b:CQ a w h y0 y1 0 0 2 (xh a w h 1 0):=⟨At.zero 0,At.one 0,by decide,by decide,c2,rfl⟩;have cb:(2:Int)^15<2^20:=p2_lt (by omega);obtain⟨s1,s2,s3,s4⟩:=JD A hl hs (by omega) (k:=3000) b (by have:=HF (show 20<=0+3000 by omega);omega) (by omega);have bv:∀{k:Nat},k<=3000->20<=k->CA k (bC p) y0 y1 2 (xh a w h 1 0):=λ{k} K hk'=>(JD A hl hs (by omega) (k:=k) b (by have:=HF (show 20<=0+k by omega);omega) (by omega)).1
 have f:=chg_Q A (by omega) hl (At.zero 0);have t:=chg_Q A (by decide) hl (At.one 0);rw[c2]at f;rw[Kc]at t;have bh: ¬(bC p).length<2:=by obtain⟨F,B,C,D,E,e,_⟩:=hl.ex;rw[e];simp
 have hr:=iso_eq p bh f t;have ac:=pre388_of bb hs f t s1;rw[<-hr]at s2 s3 s4;rw[lg]at s3 s4;generalize bd:eZ p=F at*
 have v3:∀{q:ao}{n:Int}{e:Nat}{f t:Int},NQ a w h q n e f t->q.1=F->e<=2881->eJ q y1:=λhq hF he=>hq.iv.pre3 (by omega) (by rw[hF];exact d) (by rw[hF];omega)
 have bz:∀{k:Nat},15<=k->spd w h<2^(0+k):=λ{k} K=>by have:=HF (show 15<=0+k by omega);omega
 have j:=yv_one A;have z:=cv_0 A;have one:∀{q:ao}{n:Int}{e:Nat},NQ a w h q n e 2 1->q.1=F->e<=20->qK p=[q]-> -100<=a+w-h->(dG p).length<=2->(∀x∈dG p,eJ x y1)->ResQ p a w h:=λ{q n e} N hF he K hy r2 r3=>by
  have o:C1 q:=(okE_def q).mpr<|UN A (.inl ⟨rfl,rfl⟩) (λ_=>L) (λh=>by omega) (k:=2999) N (by rw[hF];exact d) (by have:=HF (show 15<=e+2999 by omega);omega) (by omega)
  have ax:=UN A (.inl ⟨rfl,rfl⟩) (λ_=>L) (λh=>by omega) (k:=19) N (by rw[hF];exact d) (by have:=HF (show 15<=e+19 by omega);omega) (by omega);have eF:=(wP ax (show 19+1<=3000 by omega)).1;obtain⟨m,M,g1,g2,g3,_⟩:=aaU A (.inl ⟨rfl,rfl⟩) N ax;rw[<-eF,<-aaP]at g1;have hb:=brk_1 K;have be:(pH q).1=F:=by
   obtain⟨_,_,_,_,_,a4⟩:=end_iv N.iv ax;rw[<-eF,<-aaP]at a4;rw[a4,hF]
  have m0:=g1.cell.n0;have G:=between_q A hp g1.cell.hi (At.one 0) (by omega) (by omega) (by decide) (by decide) (by rw[Kc];omega) (by rw[g1.cell.t];omega) (by rw[Kc,j,z];omega);refine⟨by unfold okB;exact⟨ac,r2,r3,by rw[K];exact okK_1 o⟩,by rw[hb];simp,?_,pH q,m,M,?_,g1,g2,by omega,be.trans bd.symm⟩
  . rw[hb];intro r hr;rw[JP.1 hr,be];exact⟨by omega,d,m,M,g1.iv,by omega⟩
  . rw[hb,show([pH q]:List ao).length=1 from rfl,find_1,JB G]
 rcases(show xh a w h 1 0=1\/xh a w h 1 0=0 by
  rcases B6 (a:=a) (w:=w) (h:=h) (n:=1) (e:=0)with h|h|h
  . exact .inr h
  . exact .inl h
  . have:=aax.1 h;rw[j,z]at this;omega)with K|K
 ·
  rw[K]at s2 s3 b;have hY:=aaG.1 K;rw[j,z]at hY;have J:=s3 rfl;have c:NQ a w h (F,y0,y1) 0 0 2 1:=⟨pF,b⟩;have i1:kV (F,y0,y1)=true:=by
   rw[c.iv.kV,JG];right;show aW (cY F y1)≠0
   have:=At.one 0;rw[Kc]at this;rw[horF A pF this,aat A (by rw[j,z];omega) (by rw[j,z];omega)];omega
  exact one c rfl (by omega) (by rw[dO,J,Q3,i1];rfl) (by omega) (by rw[J];simp) (by rw[J];intro q hq;rw[JP.1 hq];exact v3 c rfl (by omega))
 ·
  rw[K]at s2 s4 b;have hY:=aaH.1 K;rw[j,z]at hY;obtain⟨u,v,x,n,e,J,K1,K2⟩:=s4 rfl;have c:NQ a w h (F,u,v) n e 2 1:=⟨pF,K1⟩;have H:NQ a w h (F,v,x) (n+1) e 1 0:=⟨pF,K2⟩;have n0:=K1.n0;have n1:=K2.n1;have he:e<=16:=by
   have:=wide_20 A n0 (show n<=n+1+1 by omega) n1 (k:=2) (by omega) (by omega) K1.f K2.t;rcases(show e<=16\/17<=e by omega)with h|h
   . exact h
   . have a1:=HF h;have a2:(2:Int)^17=2^15*4:=om 15 2;omega
  have r2:(dG p).length<=2:=by rw[J];simp
  have r3:∀q∈dG p,eJ q y1:=by
   rw[J];intro q hq;simp at hq;rcases hq with rfl|rfl
   . exact v3 c rfl (by omega)
   . exact v3 H rfl (by omega)
  have i1:kV (F,u,v)=true:=by rw[c.iv.kV,JG];left;omega
  have i2:=H.iv.kV
  by_cases O:kV (F,v,x)=true
  . have R:qK p=[(F,u,v),(F,v,x)]:=by
     rw[dO,J,Q3,i1,Q3,O];rfl
    rw[O]at i2;have bf:=KB i2.symm;have ad:a+w-h<= -101:=by
     rcases(show a+w-h<= -101\/a+w-h= -100 by omega)with h|h
     . exact h
     . exfalso;have hE:=Je (gg e) (gg e);have bi:cv e=100*(2^e*2^e):=rfl;have hx:=aaH.1 K2.t;rcases(show n+1+1<2^e\/n+1+1=2^e by omega)with h2|h2
       . obtain⟨b1,_⟩:=xv A (n:=n+1+1) (e:=e) (by omega) (m:=2^e) (by rw[K2.t];omega) h2;rw[yv_end A (n:=2^e) rfl,h]at b1;omega
       . rcases bf with h3|h3
         . omega
         . refine h3 ?_;show aW (cY F x)=0
           rw[horF A pF K2.hi];refine sF_bot A ?_;rw[yv_end A h2,h];omega
    have al:∀{k:Nat},17<=k->k<=3000->po jR ke zK (k+1) ((F,u,v),(F,v,x)):=λ{k} h1 h2=>sepQ_ok A (k:=k) c H (by omega) d d (by
     have a1:=HF (show 17<=e+k by omega);have a2:(2:Int)^17=2^15*4:=om 15 2;omega) (by omega)
    have aq:=al (k:=17) (by omega) (by omega);have hF:=(wP aq (show 17+1<=3000 by omega)).1;obtain⟨m1,m2,M,G1,G2,G3,G4,G5,G6⟩:=sepQ_res A c H (by omega) aq;rw[<-hF]at G1 G2 G5 G6;have aw:vc ((F,u,v),(F,v,x))=((xp jR ke 3000 ((F,u,v),(F,v,x))).1,(xp jR ke 3000 ((F,u,v),(F,v,x))).2):=by rw[sepN_def]
    generalize (xp jR ke 3000 ((F,u,v),(F,v,x))).1=s at*
    generalize (xp jR ke 3000 ((F,u,v),(F,v,x))).2=r at*
    have ay:s.1=F:=G5;have az:r.1=F:=G6;have o1:C1 s:=(okE_def s).mpr<|UN A (.inl ⟨rfl,rfl⟩) (λ_=>L) (λh=>by omega) (k:=2999) G1 (by rw[ay];exact d) (by have:=HF (show 15<=M+2999 by omega);omega) (by omega)
    have o2:C1 r:=(okE_def r).mpr<|UN A (.inr ⟨rfl,rfl⟩) (λh=>by omega) (λ_=>ad) (k:=2999) G2 (by rw[az];exact d) (by have:=HF (show 15<=M+2999 by omega);omega) (by omega)
    have p1:=UN A (.inl ⟨rfl,rfl⟩) (λ_=>L) (λh=>by omega) (k:=19) G1 (by rw[ay];exact d) (by have:=HF (show 15<=M+19 by omega);omega) (by omega);have p2:=UN A (.inr ⟨rfl,rfl⟩) (λh=>by omega) (λ_=>ad) (k:=19) G2 (by rw[az];exact d) (by have:=HF (show 15<=M+19 by omega);omega) (by omega);have x1:=(wP p1 (show 19+1<=3000 by omega)).1;have x2:=(wP p2 (show 19+1<=3000 by omega)).1;obtain⟨B1,fA,A1,A2,A3,jA,A4,A5,A6⟩:=aaU A (.inl ⟨rfl,rfl⟩) G1 p1
    obtain⟨B2,fB,D1,D2,D3,jB,D4,D5,D6⟩:=aaU A (.inr ⟨rfl,rfl⟩) G2 p2;obtain⟨_,_,_,_,_,z1⟩:=end_iv G1.iv p1;obtain⟨_,_,_,_,_,z2⟩:=end_iv G2.iv p2;rw[<-x1,<-aaP]at A1 z1;rw[<-x2,<-aaP]at D1 z2;rw[ay]at z1;rw[az]at z2;have A0:=A1.cell.n0;have D0:=D1.cell.n0;have bp:(B1+1)*2^fB<B2*2^fA:=by
     subst A4;subst D4;rw[om,om];have pe:=gg M;have pA:=gg jA;have pB:=gg jB;generalize (2:Int)^M=X at*
     generalize (2:Int)^jA=Y at*
     generalize (2:Int)^jB=Z at*
     have t1:(B1+1)*(X*Z)<=(m1+1)*Y*(X*Z):=Jh A6 (Ju (Je pe pB));have t2:m2*Z*(X*Y)<=B2*(X*Y):=Jh D5 (Ju (Je pe pA));have t3:(m1+1)*(Y*X*Z)<m2*(Y*X*Z):=X8 G3 (Je (Je pA pe) pB);have t4:(m1+1)*Y*(X*Z)=(m1+1)*(Y*X*Z):=by grind
     have t5:m2*Z*(X*Y)=m2*(Y*X*Z):=by grind
     omega
    have G:=between_q A hp A1.cell.hi D1.cell.lo (by omega) A1.cell.n1 D0 (by have:=D1.cell.n1;omega) bp (by rw[A1.cell.t];omega) (by have:=(aaG.1 D1.cell.f).2;omega);have aD:il (F,v,x) (F,u,v):=by
     have p1:=c.iv.ql (by omega) d (by show F.length<=100;omega);have p2:=H.iv.ql (by omega) d (by show F.length<=100;omega);unfold il;refine⟨p2,p1,H.iv.ex,c.iv.ex,?_,?_,?_,?_,?_⟩
     . rw[c.iv.hi.cmp H.iv.lo,show n+1-(n+1)=0 by omega,gV];omega
     . rw[H.iv.hi.cmp c.iv.lo,jj (by omega)];omega
     . rw[c.iv.lo.cmp H.iv.lo,gH (by omega)];omega
     . rw[c.iv.hi.cmp H.iv.hi,gH (by omega)];omega
     . rw[H.iv.lo.cmp c.iv.hi,show n+1-(n+1)=0 by omega,gV];omega
    have hb:=brk_2 R aw;refine⟨by unfold okB;exact⟨ac,r2,r3,by rw[R];exact okK_2 aw aD (al (k:=2999) (by omega) (by omega)) o1 o2⟩,by rw[hb];simp,?_,pH s,B1,fA,?_,A1,A2,by omega,z1.trans bd.symm⟩
    . rw[hb];intro y hy;simp at hy;rcases hy with rfl|rfl
      . rw[z1];exact⟨by omega,d,B1,fA,A1.iv,by omega⟩
      . rw[z2];exact⟨by omega,d,B2,fB,D1.iv,by omega⟩
    . rw[hb,show([pH s,pH r]:List ao).length=2 from rfl,find_2 _ _ _ G]
  . have R:qK p=[(F,u,v)]:=by
     rw[dO,J,Q3,i1,Q3,JA O];rfl
    have bF: ¬(n+1+1<2^e\/aW (cY F x)≠0):=λh=>O (by rw[i2,JG];exact h)
    have bt: -100<=a+w-h:=by
     have h2:n+1+1=2^e:=by omega
     have h3:aW (cY F x)=0:=by omega
     rw[horF A pF K2.hi,yv_end A h2]at h3;have h4:=ju.1 h3;have hE:=Je (gg e) (gg e);have bi:cv e=100*(2^e*2^e):=rfl;rcases JW.1 h4 with h5|h5
     . have:(a+w-h-100)*(2^e*2^e)=0:=by rw[Int.sub_mul];omega
       rcases JW.1 this with h6|h6<;>omega
     . have:(a+w-h+100)*(2^e*2^e)=0:=by rw[Qo];omega
       rcases JW.1 this with h6|h6<;>omega
    exact one c rfl (by omega) R bt r2 r3
end
end Go.Proofs.Big
namespace Go.Proofs.Big
open Go Go.Sx Go.Proofs
variable [bW]
theorem u00:qx ((0:Nat):Int) ((0:Nat):Int)*(ba ((0:Nat):Int)*ba (4-((0:Nat):Int)))=24:=by kernel_rfl
theorem u10:qx ((1:Nat):Int) ((0:Nat):Int)*(ba ((0:Nat):Int)*ba (4-((0:Nat):Int)))=24:=by kernel_rfl
theorem u11:qx ((1:Nat):Int) ((1:Nat):Int)*(ba ((1:Nat):Int)*ba (4-((1:Nat):Int)))=6:=by kernel_rfl
theorem u20:qx ((2:Nat):Int) ((0:Nat):Int)*(ba ((0:Nat):Int)*ba (4-((0:Nat):Int)))=24:=by kernel_rfl
theorem u21:qx ((2:Nat):Int) ((1:Nat):Int)*(ba ((1:Nat):Int)*ba (4-((1:Nat):Int)))=12:=by kernel_rfl
theorem u22:qx ((2:Nat):Int) ((2:Nat):Int)*(ba ((2:Nat):Int)*ba (4-((2:Nat):Int)))=4:=by kernel_rfl
theorem u30:qx ((3:Nat):Int) ((0:Nat):Int)*(ba ((0:Nat):Int)*ba (4-((0:Nat):Int)))=24:=by kernel_rfl
theorem u31:qx ((3:Nat):Int) ((1:Nat):Int)*(ba ((1:Nat):Int)*ba (4-((1:Nat):Int)))=18:=by kernel_rfl
theorem u32:qx ((3:Nat):Int) ((2:Nat):Int)*(ba ((2:Nat):Int)*ba (4-((2:Nat):Int)))=12:=by kernel_rfl
theorem u33:qx ((3:Nat):Int) ((3:Nat):Int)*(ba ((3:Nat):Int)*ba (4-((3:Nat):Int)))=6:=by kernel_rfl
theorem u40:qx ((4:Nat):Int) ((0:Nat):Int)*(ba ((0:Nat):Int)*ba (4-((0:Nat):Int)))=24:=by kernel_rfl
theorem u41:qx ((4:Nat):Int) ((1:Nat):Int)*(ba ((1:Nat):Int)*ba (4-((1:Nat):Int)))=24:=by kernel_rfl
theorem u42:qx ((4:Nat):Int) ((2:Nat):Int)*(ba ((2:Nat):Int)*ba (4-((2:Nat):Int)))=24:=by kernel_rfl
theorem u43:qx ((4:Nat):Int) ((3:Nat):Int)*(ba ((3:Nat):Int)*ba (4-((3:Nat):Int)))=24:=by kernel_rfl
theorem u44:qx ((4:Nat):Int) ((4:Nat):Int)*(ba ((4:Nat):Int)*ba (4-((4:Nat):Int)))=24:=by kernel_rfl
theorem bern5(b c d e h:Int):wJ [b,c,d,e,h] 0=24*b/\wJ [b,c,d,e,h] 1=24*b+6*c/\wJ [b,c,d,e,h] 2=24*b+12*c+4*d/\wJ [b,c,d,e,h] 3=24*b+18*c+12*d+6*e/\wJ [b,c,d,e,h] 4=24*b+24*c+24*d+24*e+24*h:=by
 have i:([b,c,d,e,h]:Ω).getD 0 0=b:=rfl;have k:([b,c,d,e,h]:Ω).getD 1 0=c:=rfl;have m:([b,c,d,e,h]:Ω).getD 2 0=d:=rfl;have o:([b,c,d,e,h]:Ω).getD 3 0=e:=rfl;have p:([b,c,d,e,h]:Ω).getD 4 0=h:=rfl;have j:(([b,c,d,e,h]:Ω).length:Int)-1=4:=by simp
 refine⟨?_,?_,?_,?_,?_⟩
 . rw[qe,tZ,Bh,i,j,u00];omega
 . rw[qe,show(1:Nat)+1=2 from rfl,tZ,tZ,Bh,i,k,j,u10,u11];omega
 . rw[qe,show(2:Nat)+1=3 from rfl,tZ,tZ,tZ,Bh,i,k,m,j,u20,u21,u22];omega
 . rw[qe,show(3:Nat)+1=4 from rfl,tZ,tZ,tZ,tZ,Bh,i,k,m,o,j,u30,u31,u32,u33];omega
 . rw[qe,show(4:Nat)+1=5 from rfl,tZ,tZ,tZ,tZ,tZ,Bh,i,k,m,o,p,j,u40,u41,u42,u43,u44];omega
theorem nev5(b c d e h:Int):vY [b,c,d,e,h]=decide (24*b<=0/\24*b+6*c<=0/\24*b+12*c+4*d<=0/\24*b+18*c+12*d+6*e<=0/\24*b+24*c+24*d+24*e+24*h<=0):=by
 obtain⟨i,j,k,b3,b4⟩:=bern5 b c d e h;have:vY [b,c,d,e,h]=vj [b,c,d,e,h] 5:=by unfold vY;rfl
 rw[this,xu,xu,xu,xu,xu,CN,i,j,k,b3,b4,Qh,<-Bool.decide_and,<-Bool.decide_and,<-Bool.decide_and,<-Bool.decide_and,JX];omega
theorem alw5{b c d e i:Int}(h:b<0\/24*b+6*c<0):vJ [b,c,d,e,i]=false:=by
 obtain⟨j,k,p,b3,b4⟩:=bern5 b c d e i;have m:vJ [b,c,d,e,i]=(Fb [b,c,d,e,i] 5&& !vY [b,c,d,e,i]):=by unfold vJ vY;rfl
 have o:Fb [b,c,d,e,i] 2=false:=by
  rw[yE,yE,HL,j,k,Qh,<-Bool.decide_and];exact JH (by omega)
 rw[m,yE,yE,yE,o];rfl
theorem bern1(x:Int):wJ [x] 0=x:=by
 have b:([x]:Ω).getD 0 0=x:=rfl;have c:(([x]:Ω).length:Int)-1=0:=by simp
 rw[qe,tZ,Bh,b,c];have e:qx ((0:Nat):Int) ((0:Nat):Int)*(ba ((0:Nat):Int)*ba (0-((0:Nat):Int)))=1:=by kernel_rfl
 rw[e];omega
theorem nev1(x:Int):vY [x]=decide (x<=0):=by
 have:vY [x]=vj [x] 1:=by unfold vY;rfl
 rw[this,xu,CN,bern1,Qh]
theorem alw1(x:Int)(h:0<x):vJ [x]=true:=by
 have b:vJ [x]=(Fb [x] 1&& !vY [x]):=by unfold vJ vY;rfl
 rw[b,nev1,yE,HL,bern1,JJ (show 0<=x by omega),JH (show¬x<=0 by omega)];rfl
theorem of0:ofN (0,0)=([0,1],(0,0),(0,0)):=by
 rw[CY];have:eV 0 0=(0,0):=by unfold eV;rw[JB rfl]
 rw[this];rfl
def qp(k s a w h:Int):Ω:=[k-s*(a*a),-(s*(2*(a*w))),-(s*(w*w-2*(a*h))),s*(2*(w*h)),-(s*(h*h))]
def w3q(a w h:Int):List (List Ω):=[[qp (-240000) 1 a w h],[qp (-240000) 1 a w h],[[500000],[500000],qp 10000000000 1000000 a w h]]
structure Bnd (a w h : Int) : Prop where
 h1 : 1 <= h
 h2 : h <= 30
 a0 : 100 <= a
 a1 : a <= 1200
 w0 : -400 <= w
 w1 : w <= 400
section
variable {a w h : Int} (B : Bnd a w h)
include B
theorem aaQ{k s:Int}(b:0<s):ae (qp k s a w h)=qp k s a w h:=by
 have c:=B.h1;refine iP (.inr ?_);rw[aN];show-(s*(h*h))≠0
 have:=Je b (Je (show 0<h by omega) (show 0<h by omega));omega
theorem prods:a*a<=1440000/\10000<=a*a/\(a*w).natAbs<=480000/\0<=w*w/\w*w<=160000/\100<=a*h/\a*h<=36000/\(w*h).natAbs<=12000/\1<=h*h/\h*h<=900:=by
 obtain⟨b,c,d,e,q,r⟩:=B;have u:(a*w).natAbs<=1200*400:=by rw[JO];exact JT (by omega) (by omega)
 have x:(w*h).natAbs<=400*30:=by rw[JO];exact JT (by omega) (by omega)
 have y:(w*w).natAbs<=400*400:=by rw[JO];exact JT (by omega) (by omega)
 have z:=sq0 w;have i:a*a<=1200*1200:=Qb e e (by omega) (by omega);have j:100*100<=a*a:=Qb d d (by omega) (by omega);have k:a*h<=1200*30:=Qb e c (by omega) (by omega);have m:100*1<=a*h:=Qb d b (by omega) (by omega);have o:h*h<=30*30:=Qb c c (by omega) (by omega);have p:1*1<=h*h:=Qb b b (by omega) (by omega);omega
theorem spd_small:spd w h<2^15:=by
 obtain⟨b,c,d,e,i,j⟩:=B;unfold spd;have:(2:Int)^15=32768:=rfl;omega
theorem qp_abs{k s:Int}(i:k.natAbs<=10000000000)(c:0<s)(j:s<=1000000):∀z∈qp k s a w h,z.natAbs<4294967296*4294967296:=by
 obtain⟨o,p,q,r,u,y,A,C,D,d⟩:=prods B;have m:∀x:Int,x.natAbs<=1440000->(s*x).natAbs<=1000000*1440000:=λx e=>by rw[JO];exact JT (by omega) e
 intro z b;have E:=m (a*a) (by omega);have F:=m (2*(a*w)) (by omega);have G:=m (w*w-2*(a*h)) (by omega);have H:=m (2*(w*h)) (by omega);have J:=m (h*h) (by omega);unfold qp at b;simp only[Kd,KE,or_false]at b;rcases b with rfl|rfl|rfl|rfl|rfl<;>omega
theorem qp_sz{k s:Int}(c:k.natAbs<=10000000000)(b:0<s)(d:s<=1000000):bj 2 (qp k s a w h):=jd (by unfold qp;simp) λz e=>by
 have:=qp_abs B c b d z e;rw[fE];have:(2:Int)^(32*2)=18446744073709551616:=rfl;omega
theorem disc_nev:vY (qp (-240000) 1 a w h)=true:=by
 have P:=prods B;obtain⟨e,i,j,k,m,o,p,q,r,d⟩:=P;obtain⟨u,x,y,z,A,C⟩:=B;unfold qp;rw[nev5];have D:=sq0 (a+w-h);have E:(a+w-h)*(a+w-h)=a*a+2*(a*w)+w*w-2*(a*h)-2*(w*h)+h*h:=by grind
 have F: -200*1200<=(2*a+w)*a:=by
  rcases(show 0<=2*a+w\/2*a+w<0 by omega)with b|b
  . have:=Ja b (show 0<=a by omega);omega
  . have:=Jh (show-200<=2*a+w by omega) (show 0<=a by omega);have: -200*1200<= -200*a:=by omega
    omega
 have G:(2*a+w)*a=2*(a*a)+a*w:=by grind
 have b3: -1000*330<=(2*a+w)*(a+w-h):=by
  rcases(show 0<=a+w-h\/a+w-h<0 by omega)with b|b
  . have:=Ja (show 0<=2*a+w by omega) b;omega
  . rcases(show 0<=2*a+w\/2*a+w<0 by omega)with c|c
    . have H:=Jt (show-330<=a+w-h by omega) c;have J:(2*a+w)* -330= -330*(2*a+w):=J6 ..;omega
    . have:=JY c b;omega
 have K:(2*a+w)*(a+w-h)=2*(a*a)+3*(a*w)+w*w-2*(a*h)-w*h:=by grind
 exact JJ ⟨by omega,by omega,by omega,by omega,by omega⟩
theorem face_nev(b:100<=a+w-h):vY (qp 10000000000 1000000 a w h)=true:=by
 have P:=prods B;obtain⟨e,i,j,k,m,o,p,q,r,d⟩:=P;obtain⟨u,x,c,y,z,A⟩:=B;unfold qp;rw[nev5];have C:100*100<=(a+w-h)*(a+w-h):=Qb b b (by omega) (by omega);have D:(a+w-h)*(a+w-h)=a*a+2*(a*w)+w*w-2*(a*h)-2*(w*h)+h*h:=by grind
 have E:201*100<=(2*a+w)*a:=Qb (by omega) c (by omega) (by omega);have F:(2*a+w)*a=2*(a*a)+a*w:=by grind
 have b3:201*100<=(2*a+w)*(a+w-h):=Qb (by omega) b (by omega) (by omega);have G:(2*a+w)*(a+w-h)=2*(a*a)+3*(a*w)+w*w-2*(a*h)-w*h:=by grind
 have b4:201*201<=(2*a+w)*(2*a+w):=Qb (by omega) (by omega) (by omega) (by omega);have H:(2*a+w)*(2*a+w)=4*(a*a)+4*(a*w)+w*w:=by grind
 have J:100*100<=a*(a+w-h):=Qb c b (by omega) (by omega);have K:a*(a+w-h)=a*a+a*w-a*h:=by grind
 exact JJ ⟨by omega,by omega,by omega,by omega,by omega⟩
theorem face_not(c:a+w-h<=99):vY (qp 10000000000 1000000 a w h)=false:=by
 have P:=prods B;obtain⟨i,j,k,m,o,p,q,r,u,d⟩:=P;obtain⟨x,y,z,A,C,D⟩:=B;unfold qp;rw[nev5];refine JH λ⟨E,F,G,H,J⟩=>?_
 have K:(a+w-h)*(a+w-h)=a*a+2*(a*w)+w*w-2*(a*h)-2*(w*h)+h*h:=by grind
 have L:(2*a+w)*(a+w-h)=2*(a*a)+3*(a*w)+w*w-2*(a*h)-w*h:=by grind
 have M:(2*a+w)*a=2*(a*a)+a*w:=by grind
 rcases(show a+w-h<= -100\/ -100<a+w-h by omega)with e|e
 . rcases(show 0<=2*a+w\/2*a+w<0 by omega)with b|b
   . have:=KD b (show a+w-h<=0 by omega);omega
   . have:=KC b (show 0<a by omega);omega
 . have:((a+w-h)*(a+w-h)).natAbs<=99*99:=by rw[JO];exact JT (by omega) (by omega)
   omega
theorem face_alw(b:100<a\/0<w):vJ (qp 10000000000 1000000 a w h)=false/\gj (qp 10000000000 1000000 a w h)<=0:=by
 have P:=prods B;obtain⟨e,i,j,k,m,o,p,q,r,d⟩:=P;obtain⟨u,x,y,z,A,C⟩:=B;unfold qp;rcases(show 100<a\/a=100 by omega)with c|c
 . have:101*101<=a*a:=Qb (by omega) (by omega) (by omega) (by omega);refine⟨alw5 (.inl (by omega)),?_⟩;rw[qY,JA (by omega),gH (by omega)];omega
 . subst c;refine⟨alw5 (.inr (by omega)),?_⟩;rw[qY,JB (by omega),qY,JA (by omega),gH (by omega)];omega
theorem face_now(b:a=100)(c:w<=0):0<gj (qp 10000000000 1000000 a w h):=by
 obtain⟨d,e,i,j,k,m⟩:=B;unfold qp;subst b;rw[qY,JB (by omega),qY];split
 . have:w=0:=by omega
   subst this;rw[qY,JA (by omega),jj (by omega)];omega
 . rw[jj (by omega)];omega
end
theorem Ap{k:Int}(b:0<k):ae [k]=[k]:=iP (.inr (by rw[aN];show k≠0;omega))
theorem face_of{k m:Int}{p:Ω}(b:0<k)(c:0<m)(i:ae p=p):fD [[k],[m],p]=vY p/\(vJ p=true->uA [[k],[m],p]=true)/\(vJ p=false->bq [[k],[m],p]=[p]/\uA [[k],[m],p]=decide (0<gj p)):=by
 have B:fD []=false:=by unfold fD;rfl
 have C:bq []=[]:=by unfold bq;rfl
 have D:uA []=true:=by unfold uA bq;rfl
 have A:∀{x:Int},0<x->vY [x]=false:=λh=>by rw[nev1];exact JH (by omega)
 have j:=xr [] [k];have o:=xr [[k]] [m];have q:=xr [[k],[m]] p;have r:=Ty [] [k];have u:=Ty [[k]] [m];have w:=Ty [[k],[m]] p;have y:=zY [] [k];have z:=zY [[k]] [m];have d:=zY [[k],[m]] p;simp only[Jj,K0]at j o q r u w y z d;rw[Ap b,A b,B]at j;rw[Ap c,A c,j]at o;rw[i,o]at q;rw[Ap b,alw1 k b,C]at r;rw[Ap c,alw1 m c,r]at u;rw[i,u]at w;rw[Ap b,alw1 k b,D]at y;rw[Ap c,alw1 m c,y]at z;rw[i,z]at d;refine⟨by rw[q];simp,λe=>by rw[d,e];rfl,λe=>⟨by rw[w,e];rfl,by rw[d,e];simp⟩⟩
theorem pre350_one{k:Int}(c:k.natAbs<18446744073709551616):eO [k]:=by
 unfold eO;refine⟨an (k:=2) (jd (by simp) λz b=>?_) (by omega),by simp⟩;simp at b;subst b;rw[fE];have:(2:Int)^(32*2)=18446744073709551616:=rfl;omega
theorem pre350_qp{a w h:Int}(B:Bnd a w h){k s:Int}(c:k.natAbs<=10000000000)(b:0<s)(d:s<=1000000):eO (qp k s a w h):=by
 unfold eO;exact⟨an (qp_sz B c b d) (by omega),by unfold qp;simp⟩
theorem aay{a w h:Int}(B:Bnd a w h)(H:vY (qp 10000000000 1000000 a w h)=false->vJ (qp 10000000000 1000000 a w h)=false->gj (qp 10000000000 1000000 a w h)<=0->okB (qp 10000000000 1000000 a w h)/\(aC (qp 10000000000 1000000 a w h)).length<=2/\∀q∈aC (qp 10000000000 1000000 a w h),∃n e,Iv q n e/\e<=7000):lP [[500000],[500000],qp 10000000000 1000000 a w h]:=by
 have E:=aaQ B (k:=10000000000) (s:=1000000) (by omega);have A:=pre350_qp B (k:=10000000000) (s:=1000000) (by decide) (by omega) (by omega);obtain⟨t1,t2,t3⟩:=face_of (k:=500000) (m:=500000) (by omega) (by omega) E;generalize qp 10000000000 1000000 a w h=p at*
 unfold lP;refine⟨by simp,λq d=>?_,λF j=>?_⟩
 . simp only[Kd,KE,or_false]at d;rcases d with rfl|rfl|rfl
   . exact pre350_one (by decide)
   . exact pre350_one (by decide)
   . exact A
 . have c:vJ p=false:=by
    cases G:vJ p with
    |true=>rw[t2 G]at j;cases j
    |false=>rfl
   obtain⟨J,K⟩:=t3 c;rw[K]at j;obtain⟨L,M,C⟩:=H (by rw[<-t1];exact F) c (by simpa using j);rw[J];refine⟨by unfold qJ;exact⟨rfl,L⟩,M,λi o=>?_⟩;obtain⟨n,e,b,R⟩:=C _ (uk o);have N:=b.n0;have r:=b.n1;refine⟨b.lo.dp N (by omega) (by omega),b.hi.dp (by omega) r (by omega),λq d=>?_⟩;rw[JP.1 d];obtain⟨D,X⟩:=ta A;show bM p (mZ (aC p) i)
   rw[tF];have o:i<(aC p).length:=o
   by_cases u:i+1<(aC p).length
   . rw[JB u];obtain⟨m,f,x,Z⟩:=C _ (uk u);have O:=x.n0;have m1:=x.n1;obtain⟨y,z,b3⟩:=b.hi.btw x.lo (by omega) r O (by omega);exact y.bM z b3 (by omega) (an D (by omega)) (by omega)
   . rw[JA u];obtain⟨y,z,b3⟩:=b.hi.btw (At.one 0) (by omega) r (by decide) (by decide);exact y.bM z b3 (by omega) (an D (by omega)) (by omega)
end Go.Proofs.Big
namespace Go.Proofs.Big
open Go Go.Sx Go.Proofs
variable [bW]
def gr:Nat->Nat->Nat
 |0,m=>m
 |k+1,m=>gr k (m+5*(m+1))
theorem gr_le:∀(k m:Nat),m<=gr k m
 |0,m=>J1 _
 |k+1,m=>by
  have:=gr_le k (m+5*(m+1));show m<=gr k (m+5*(m+1));omega
theorem chF_sz:∀{k m:Nat}{a b:Ω},a.length<=5->b.length<=5->ae b=b->bj m a->bj m b->(Vs (k+1) a b).length<=k+1/\∀q∈Vs (k+1) a b,bj (gr k m) q/\q.length<=5
 |k,m,a,b,h,e,i,j,d=>by
  rw[rN];split
  . exact⟨by simp,by simp⟩
  . rename_i u;obtain⟨o,w,p,x⟩:=rY j d h i (by omega);cases k with
    |zero=>
     rw[zh];refine⟨by simp,λq c=>?_⟩;rw[JP.1 c];exact⟨d,e⟩
    |succ k=>
     obtain⟨y,r⟩:=chF_sz (k:=k) (m:=m+5*(m+1)) e (by omega) p (an d (by omega)) o;refine⟨by rw[Jc];omega,λq c=>?_⟩;rcases Kd.1 c with rfl|c
     . exact⟨an d (gr_le (k+1) m),e⟩
     . exact r q c
theorem arc_shrt{p:Ω}{a w h:Int}(A:Arc a w h)(e:Prq p a w h)(i:bj 2 p):Shrt (bC p)/\bj 2 (eZ p):=by
 obtain⟨f1,f2,f3,_⟩:=aa2 A e;have x:=f2.len A.tops.1;have c:=yU i;have j:wB p=ag (aX (eZ p)):=by unfold wB;rw[f1]
 obtain⟨d1,d2⟩:=jg c (by omega);have o:(ag (aX (eZ p))).length=3+1:=(der_prp A f2).prim.len A.tops.2.1;refine⟨?_,c⟩;rw[chainL_def,f1,j,JA (by omega),o];obtain⟨y,r⟩:=chF_sz (k:=3) (m:=3) (a:=eZ p) (b:=ag (aX (eZ p))) (by omega) (by omega) (dP _) (an c (by omega)) (bP d1);unfold Shrt;refine⟨by rw[Jc];omega,λq d=>?_⟩;rcases Kd.1 d with rfl|d
 . exact⟨an c (by omega),by omega⟩
 . obtain⟨u,z⟩:=r q d;exact⟨an u (by decide),by omega⟩
theorem arc_261{p:Ω}{a w h:Int}(A:Arc a w h)(b:Prq p a w h)(c:bj 2 p)(d:p.length<=5):m6 p:=by
 unfold m6;exact .inr ⟨an c (by omega),d,by rw[com_prp A (pp_prq A b)];omega⟩
theorem arc_of{a w h:Int}(B:Bnd a w h)(b:100<a\/0<w):Arc a w h:=by
 obtain⟨d,i,e,j,k,m⟩:=B;refine⟨d,e,?_⟩;unfold mM;have o:=sq0 w;rcases b with c|c
 . have:4*h*101<=4*h*a:=Jt (by omega) (by omega);omega
 . have:=Je c c;have:4*h*100<=4*h*a:=Jt (by omega) (by omega);omega
theorem prp_qp(a w h:Int):Eo 5 (qp 10000000000 1000000 a w h) λi=> -(q0f a w h i):=by
 refine⟨by unfold qp;simp,1,1000000,by omega,by omega,λi b=>?_⟩;unfold qp;rcases(show i=0\/i=1\/i=2\/i=3\/i=4 by omega)with rfl|rfl|rfl|rfl|rfl
 . show 1*(10000000000-1000000*(a*a))=1000000* -(a*a-10000);omega
 . show 1* -(1000000*(2*(a*w)))=1000000* -(2*(a*w));omega
 . show 1* -(1000000*(w*w-2*(a*h)))=1000000* -(w*w-2*(a*h));omega
 . show 1*(1000000*(2*(w*h)))=1000000* -(-(2*(w*h)));omega
 . show 1* -(1000000*(h*h))=1000000* -(h*h);omega
theorem scl_at{y:Int×Int}{n:Int}{e:Nat}(h:At y n e):vA y 4=n*16/2^e:=by
 obtain⟨m,o,d⟩:=h;rw[Gn];have b:(16:Int)=2^4:=rfl;split
 . rename_i i;rw[d,b];have c:y.1*2^(e-y.2.toNat)*2^4=y.1*2^(4-y.2).toNat*2^e:=by
    rw[Jk,Jk,<-om,<-om]
    congr 2;omega
   rw[c,Int.mul_ediv_cancel _ (by have:=gg e;omega)]
 . rename_i j;rw[d,b];have c:y.1*2^(e-y.2.toNat)*2^4=y.1*2^(e-(y.2-4).toNat):=by
    rw[Jk,<-om]
    congr 2;omega
   have k:(2:Int)^e=2^(y.2-4).toNat*2^(e-(y.2-4).toNat):=by
    rw[<-om];congr 1;omega
   rw[c,k,KN _ _ (gg _)]
theorem bl_1:bl 1=1:=by kernel_rfl
section
variable {a w h : Int} (A : Arc a w h)
include A
theorem six_lo{n j:Int}{e:Nat}(p:0<=n)(m:0<=j)(i:xh a w h n e=2)(q:j*2^e<=n*16):cv 4<=yv a w h j 4:=by
 have b:=aah (a:=a) (w:=w) (h:=h) (n:=n) (e:=e) 4;have c:=aah (a:=a) (w:=w) (h:=h) (n:=j) (e:=4) e;rw[show(2:Int)^4=16 from rfl]at b;rw[JS 4 e]at c;have o:xh a w h j 4=2:=by
  rcases(show j*2^e=n*16\/j*2^e<n*16 by omega)with d|d
  . rw[<-c,d,b,i]
  . have hm:=cntQ_mono A (e:=e+4) (Ja m (Ju (gg e))) d;rw[b,c,i]at hm;rcases B6 (a:=a) (w:=w) (h:=h) (n:=j) (e:=4)with k|k|k<;>omega
 have:=aax.1 o;omega
theorem flr_ok:∀{k:Nat}{q:ao}{n:Int}{e:Nat},NQ a w h q n e 2 1->bj 1000 q.1->4<=e+k->e+k<=20000->po (kU 4) ai (XK 4) (k+1) q
 |k,q,n,e,c,j,G,H=>by
  have p:=c.iv.pre (by omega) j (by have:=c.F.1;omega);have J:=c.iv.n0;have K:=c.iv.n1;have y:=scl_at c.iv.lo;have r:=scl_at c.iv.hi;have E:=gg e;have b:0<=(n+1)*16/2^e:=Kb (by omega) (by omega);have d:(n+1)*16/2^e<=16:=by
   have:(n+1)*16/2^e<17:=KM E (by omega);omega
  have u:At (vA q.2.2 4,4) (vA q.2.2 4) 4:=⟨by show(0:Int)<=4;omega,by show(4:Int).toNat<=4;omega,by show _=_*(2:Int)^(4-(4:Int).toNat);simp⟩;have i:eJ q (vA q.2.2 4,4):=by
   rw[<-r]at b d;obtain⟨z,L,M⟩:=zJ p;unfold eJ;exact⟨z,u.dp b d (by omega),u.bM b d (by omega) j (by have:=c.F.1;omega)⟩
  refine⟨by unfold XK;exact⟨p,i⟩,?_⟩;rcases(show 4<=e\/e<4 by omega)with x|x
  . left;rw[flrD_def,JG,y,r];have B:(16:Int)<=2^e:=HF x;have C:(n+1)*16/2^e<n*16/2^e+2:=by
     refine KM E ?_;have:=Zi (n*16) E;have N:(n*16/2^e+2)*2^e=(n*16/2^e+1)*2^e+2^e:=by rw[Qo,Qo];omega
     omega
    have D:n*16/2^e<=(n+1)*16/2^e:=KG E (by omega);rcases(show(n+1)*16/2^e-n*16/2^e=0\/(n+1)*16/2^e-n*16/2^e=1 by omega)with o|o
    . left;rw[o,gV]
    . right;rw[o,bl_1]
  . cases k with
    |zero=>omega
    |succ k=>
     right;obtain⟨m,hm,_,_⟩:=c.step A (.inl ⟨rfl,rfl⟩);exact flr_ok hm (by rw[IS A];exact j) (by omega) (by omega)
theorem flr_res:∀{k:Nat}{q:ao}{n:Int}{e:Nat},NQ a w h q n e 2 1->∃m b,NQ a w h (xp (kU 4) ai k q) m b 2 1
 |0,q,n,e,c=>⟨n,e,c⟩
 |k+1,q,n,e,c=>by
  simp only[xp];split
  . exact⟨n,e,c⟩
  . obtain⟨m,hm,_,_⟩:=c.step A (.inl ⟨rfl,rfl⟩);exact flr_res hm
theorem six_hi{q:ao}{n j:Int}{e:Nat}(c:NQ a w h q n e 2 1)(z:0<=j)(b:0<=gn q (j,4)):cv 4<=yv a w h j 4:=by
 have M:=c.iv.n0;have B:At ((j,4):Int×Int) j 4:=⟨by show(0:Int)<=4;omega,by show(4:Int).toNat<=4;omega,by show _=_*(2:Int)^(4-(4:Int).toNat);simp⟩;have i:=B.up e;have C:=c.iv.lo.up 4;have D:=c.iv.hi.up 4;rw[JS 4 e]at i;rw[show(2:Int)^4=16 from rfl]at C D;rw[vf,c.iv.ex,i.cmp C,i.cmp D]at b;simp only[Jr,JF]at b;have E:=gg e;have N:0<=j*2^e:=Ja z (by omega);rcases(show j*2^e<=n*16\/n*16<j*2^e by omega)with G|G
 . exact six_lo A M z c.cell.f G
 . rw[jj (show 0<j*2^e-n*16 by omega),JA (by omega)]at b;have H:=aaG.1 c.cell.t;have J:=yv_up (a:=a) (w:=w) (h:=h) (n:=j) (e:=4) e;have O:=cv_up (e:=4) e;rw[JS 4 e]at J O;have R:=yv_up (a:=a) (w:=w) (h:=h) (n:=n+1) (e:=e) 4;have X:=cv_up (e:=e) 4;rw[show(2:Int)^4=16 from rfl]at R X;have o:=Je E E;have up:∀{x y:Int},x*(2^e*2^e)<=y*(2^e*2^e)->x<=y:=λh=>KP h o
   have k:xh a w h j 4<=1->j*2^e<(n+1)*16->yv a w h ((n+1)*16) (e+4)<yv a w h (j*2^e) (e+4):=λZ p=>by
    have u:=aah (a:=a) (w:=w) (h:=h) (n:=j) (e:=4) e;rw[JS 4 e]at u;exact(xv A (e:=e+4) N (by rw[u];exact Z) p).1
   have eY:aW (cY q.1 (j,4))=aW ((yv a w h j 4-cv 4)*(yv a w h j 4+cv 4)):=horF A c.F B;have K:aW (cY q.1 q.2.2)=aW ((yv a w h (n+1) e-cv e)*(yv a w h (n+1) e+cv e)):=horF A c.F c.iv.hi;have c4:=aaK 4;rcases(show cv 4<=yv a w h j 4\/yv a w h j 4<cv 4 by omega)with m|m
   . exact m
   . exfalso;have r:xh a w h j 4<=1:=by
      rcases B6 (a:=a) (w:=w) (h:=h) (n:=j) (e:=4)with d|d|d
      . omega
      . omega
      . have:=aax.1 d;omega
     have L:yv a w h j 4*(2^e*2^e)<cv 4*(2^e*2^e):=X8 m o;have ac: -(cv e*(16*16))<yv a w h (n+1) e*(16*16):=by omega
     rcases(show j*2^e=(n+1)*16\/j*2^e<(n+1)*16\/(n+1)*16<j*2^e by omega)with d|d|d
     . rw[d,Int.sub_self,gV,JA (by omega),JB rfl,K]at b;rw[d]at J;rw[aat A (by omega) H.2]at b;simp at b
     . rw[gH (show j*2^e-(n+1)*16<0 by omega),JA (by omega),JA (by omega),eY,K]at b;have hf:=k r d;have hY: -cv 4<yv a w h j 4:=by
        refine KH (a:=2^e*2^e) ?_ (Ju o);rw[Int.neg_mul];omega
       rw[aat A m hY]at b;rw[aat A (by omega) H.2]at b;simp at b
     . rw[jj (show 0<j*2^e-(n+1)*16 by omega),JB (by omega)]at b;omega
end
structure GoodR (a w h : Int) (q : ao) : Prop where
 v : rm q
 p : m6 q.1
 six : CB q
 s0 : 0 <= kX q
 s1 : kX q <= 15
 up : 25600 <= 256 * a + 16 * (kX q * w) - kX q * kX q * h
 b : 0 <= q.2.1.1 /\ 0 <= q.2.2.1 /\ 0 <= q.2.1.2 /\ q.2.1.2 <= 1000 /\ 0 <= q.2.2.2 /\ q.2.2.2 <= 1000
theorem dz_256{k:Nat}{p:Ω}(b:bj k p)(e:k<=200):∀z∈p,fit z/\(dz z).length<=256:=λz d=>by
 have c:(z.natAbs:Int)<pw k:=by unfold bj at b;exact b.2 z d
 have:=Bc (z:=z) (k:=k) c;exact⟨fX c (by omega),by omega⟩
theorem plus_nil{p:Ω}(h:ae p=p):dZ p []=p:=by
 have b:tl p=p.length:=by rw[<-bn,h]
 have c:tl ([]:Ω)=0:=by have:=cX ([]:Ω);simpa using this
 have e:TL p [] (max (tl p) (tl []))=p:=by
  rw[c,Nat.max_zero,b];unfold TL;refine List.ext_getElem (by simp) λi j d=>?_
  simp[d]
 unfold dZ;rw[e,h]
theorem pre255_at{y:Int×Int}{n:Int}{e:Nat}(d:At y n e)(h:0<=n)(i:n<=2^e)(j:e<=150):nA y/\0<=y.1/\0<=y.2/\y.2<=1000:=by
 obtain⟨k,o,c,p⟩:=d.sz h i;have b:(2:Int)^e<=2^150:=HF j;have q:(2:Int)^150<Ru 6:=by decide+kernel
 have m:y.1.natAbs<Ru 6:=by omega
 refine⟨PT ?_,k,c,by omega⟩;unfold N0;simp only[J2,JG];exact⟨⟨c,by omega⟩,m⟩
theorem good_arc{a w h:Int}(B:Bnd a w h)(A:Arc a w h)(L:a+w-h<=99){q:ao}{n:Int}{e:Nat}(N:NQ a w h q n e 2 1)(he:e<=100)(c:bj 2 q.1)(z:ae q.1=q.1):GoodR a w h q:=by
 have lF:=N.F.len A.tops.1;have o:=N.iv.n0;have r:=N.iv.n1;obtain⟨f1,f2,f3,_⟩:=aa2 A (.inl N.F);obtain⟨S,M⟩:=arc_shrt A (.inl N.F) c;have b:=arc_261 A (.inl N.F) c (by omega);obtain⟨O,R,X,Z⟩:=pre255_at N.iv.lo o (by omega) (by omega);obtain⟨m1,m2,m3,m4⟩:=pre255_at N.iv.hi (by omega) r (by omega);have v:rm q:=by
  unfold rm;refine⟨?_,bu c (by omega),by rw[<-bn,z];omega,O,m1,N.iv.lo.dp o (by omega) (by omega),N.iv.hi.dp (by omega) r (by omega),.inr ⟨?_,b,S.pre N.iv.lo o (by omega) (by omega),S.pre N.iv.hi (by omega) r (by omega),?_⟩⟩
  . unfold mu lgW;rw[plus_nil z];refine⟨⟨by simp,λx p=>?_⟩,⟨by simp,λx p=>?_⟩,an c (by omega),jd (by simp) (by simp)⟩
    . simp only[Kd,KE,or_false]at p;rcases p with rfl|rfl
      . exact⟨by omega,dz_256 c (by omega)⟩
      . exact⟨by simp,by simp⟩
    . rw[JP.1 p];exact⟨by omega,dz_256 c (by omega)⟩
  . have:=N.iv.lo.cmp N.iv.hi;rw[show n-(n+1)= -1 by omega,gH (show(-1:Int)<0 by omega)]at this;rcases sgn3 (dd q.2.1 q.2.2)with⟨C,D⟩|⟨C,D⟩|⟨C,D⟩<;>omega
  . rw[chg_Q A o f3 N.iv.lo,chg_Q A (by omega) f3 N.iv.hi,N.cell.f,N.cell.t];omega
 have G:cM q=(eZ q.1,q.2.1,q.2.2):=by unfold cM;rw[f1]
 have H:NQ a w h (cM q) n e 2 1:=by rw[G];exact⟨f2,N.cell⟩
 have s2:bj 1000 (cM q).1:=by rw[G];exact an M (by omega)
 obtain⟨m,d,i⟩:=flr_res A (k:=3000) H;have u:cv 4<=yv a w h (kX q) 4/\0<=kX q/\kX q<=16:=by
  have hd:kX q=DD 4 (cM q):=by unfold kX;rfl
  rw[hd,floN_def];have hl:=scl_at i.iv.lo;have hh:=scl_at i.iv.hi;have E:=gg d;have k0:=i.iv.n0;have k1:=i.iv.n1;have y:0<=m*16/2^d:=Kb (by omega) (by omega);have J:0<=(m+1)*16/2^d:=Kb (by omega) (by omega);have K:m*16/2^d<=16:=by
   have:m*16/2^d<17:=KM E (by omega);omega
  have b3:(m+1)*16/2^d<=16:=by
   have:(m+1)*16/2^d<17:=KM E (by omega);omega
  have j:=six_lo A k0 y i.cell.f (Int.ediv_mul_le (m*16) (by omega));rw[hl,hh];split
  . exact⟨j,y,K⟩
  . split
    . rename_i c;exact⟨six_hi A i J c,J,b3⟩
    . exact⟨j,y,K⟩
 obtain⟨u1,u2,u3⟩:=u;have ey:yv a w h (kX q) 4=256*a+16*(kX q*w)-kX q*kX q*h:=by
  unfold yv;rw[show(2:Int)^4=16 from rfl];grind
 have ec:cv 4=25600:=rfl;have u4:kX q<=15:=by
  rcases(show kX q<=15\/kX q=16 by omega)with h|h
  . exact h
  . rw[h]at ey u1;omega
 refine⟨v,b,?_,u2,u4,by omega,⟨R,m2,X,Z,m3,m4⟩⟩;unfold CB yL aan uV;exact⟨⟨v,b,by decide,by decide,flr_ok A (k:=2999) H s2 (by omega) (by omega)⟩,by omega,by omega⟩
theorem good_zero{w h:Int}:GoodR 100 w h ([0,1],(0,0),(0,0)):=by
 have c:vF ([0,1],(0,0),(0,0))=true/\kX ([0,1],(0,0),(0,0))=0:=⟨by kernel_rfl,by kernel_rfl⟩;obtain⟨b,d,e,i,j⟩:=q325_ok c.1;refine⟨d,e,b,i,j,?_,by decide⟩;rw[c.2];omega
theorem fir_face{a w h:Int}(B:Bnd a w h):aJ [qp (-240000) 1 a w h]=(d0,false)/\dD (w3q a w h)=if(aJ [[500000],[500000],qp 10000000000 1000000 a w h]).2 then aJ [[500000],[500000],qp 10000000000 1000000 a w h]else(d0,false):=by
 have b:aJ [qp (-240000) 1 a w h]=(d0,false):=beg_nev (aaQ B (by omega)) (disc_nev B);refine⟨b,?_⟩;unfold w3q;rw[vE,b,JA (by decide),vE,b,JA (by decide),vE,yO]
theorem aaX{a w h:Int}(B:Bnd a w h)(y:lP [[500000],[500000],qp 10000000000 1000000 a w h])(A:(aJ [[500000],[500000],qp 10000000000 1000000 a w h]).2=true->dp (aJ [[500000],[500000],qp 10000000000 1000000 a w h]).1.2.1/\dp (aJ [[500000],[500000],qp 10000000000 1000000 a w h]).1.2.2)
 (C:(dD (w3q a w h)).2=true->pI (dD (w3q a w h)).1):jM (w3q a w h):=by
 obtain⟨o,_⟩:=fir_face B;have q:lP [qp (-240000) 1 a w h]:=pre285_one (pre350_qp B (by decide) (by omega) (by omega)) (aaQ B (by omega)) (λr=>by rw[disc_nev B]at r;cases r);have u:=qp_abs B (k:= -240000) (s:=1) (by decide) (by omega) (by omega);have D:=qp_abs B (k:=10000000000) (s:=1000000) (by decide) (by omega) (by omega);have F:4294967296*4294967296<2^200:=by decide
 have G:(qp (-240000) 1 a w h).length=5:=by unfold qp;rfl
 have H:(qp 10000000000 1000000 a w h).length=5:=by unfold qp;rfl
 unfold jM;refine⟨?_,?_,C⟩
 . unfold HD w3q;refine⟨by simp,λc m=>?_⟩;simp only[Kd,KE,or_false]at m;rcases m with rfl|rfl|rfl
   . refine⟨by simp,λp e=>?_⟩;rw[JP.1 e];exact⟨by omega,λz b=>by have:=u z b;omega⟩
   . refine⟨by simp,λp e=>?_⟩;rw[JP.1 e];exact⟨by omega,λz b=>by have:=u z b;omega⟩
   . refine⟨by simp,λp e=>?_⟩;simp only[Kd,KE,or_false]at e;rcases e with rfl|rfl|rfl
     . exact⟨by simp,λz b=>by rw[JP.1 b];decide⟩
     . exact⟨by simp,λz b=>by rw[JP.1 b];decide⟩
     . exact⟨by omega,λz b=>by have:=D z b;omega⟩
 . unfold sR w3q;refine⟨by simp,λc m=>?_,λi j E x d=>?_⟩
   . simp only[Kd,KE,or_false]at m;rcases m with rfl|rfl|rfl
     . exact⟨q,λh=>by rw[o]at h;cases h⟩
     . exact⟨q,λh=>by rw[o]at h;cases h⟩
     . exact⟨y,A⟩
   . exfalso;have x:j<3:=x;rcases(show i=0\/i=1 by omega)with rfl|rfl
     . have d:(aJ [qp (-240000) 1 a w h]).2=true:=d;rw[o]at d;cases d
     . have d:(aJ [qp (-240000) 1 a w h]).2=true:=d;rw[o]at d;cases d
theorem fir_no{a w h:Int}(B:Bnd a w h)(b:100<=a+w-h):jM (w3q a w h)/\(dD (w3q a w h)).2=false:=by
 have d:=face_nev B b;obtain⟨t1,_⟩:=face_of (k:=500000) (m:=500000) (by omega) (by omega) (aaQ B (k:=10000000000) (s:=1000000) (by omega));have e:aJ [[500000],[500000],qp 10000000000 1000000 a w h]=(d0,false):=aaS (by rw[t1];exact d);obtain⟨_,c⟩:=fir_face B;rw[e,JA (by decide)]at c;refine⟨aaX B (aay B λh=>by rw[d]at h;cases h) (λh=>by rw[e]at h;cases h) (λh=>by rw[c]at h;cases h),by rw[c]⟩
theorem fir_hit{a w h:Int}(B:Bnd a w h)(i:a+w-h<=99):jM (w3q a w h)/\(dD (w3q a w h)).2=true/\GoodR a w h (nm (dD (w3q a w h)).1):=by
 have C:=face_not B i;have j:=qp_sz B (k:=10000000000) (s:=1000000) (by decide) (by omega) (by omega);have u:=aaQ B (k:=10000000000) (s:=1000000) (by omega);obtain⟨t1,t2,t3⟩:=face_of (k:=500000) (m:=500000) (by omega) (by omega) u;obtain⟨_,d⟩:=fir_face B;rcases(show(100<a\/0<w)\/(a=100/\w<=0) by have:=B.a0;omega)with b|⟨b,M⟩
 . obtain⟨O,o⟩:=face_alw B b;obtain⟨X,Z⟩:=t3 O;have A:=arc_of B b;have P:=prp_qp a w h;obtain⟨S,D⟩:=arc_shrt A (.inr P) j;have R:=arc_res A P (arc_261 A (.inr P) j (by unfold qp;simp)) S (an D (by omega)) i b (spd_small B);obtain⟨q,n,e,r1,N,r2,r3,E⟩:=R.res;have p:aJ [[500000],[500000],qp 10000000000 1000000 a w h]=(q,true):=by
    rw[BC (by rw[t1];exact C) (by rw[Z,JH (by omega)]),X];exact r1
   rw[p,JB rfl]at d;have F:ae q.1=q.1:=by rw[E];exact zX _
   have H:bj 2 q.1:=by rw[E];exact D
   have n0:=N.iv.n0;have n1:=N.iv.n1;have sl:=N.iv.lo.dp n0 (by omega) (by omega);have J:=N.iv.hi.dp (by omega) n1 (by omega);have y:nm q=q:=by rw[BT,F]
   refine⟨aaX B (aay B λ_ _ _=>⟨R.ok,R.len,λx hx=>(R.iv x hx).2.2⟩) (λ_=>by rw[p];exact⟨sl,J⟩) (λ_=>?_),by rw[d],?_⟩
   . rw[d];unfold pI;exact⟨bu H (by omega),(oe sl).1,(oe J).1⟩
   . rw[d,y];exact good_arc B A i N r3 H F
 . subst b;have o:=face_now B rfl M;have r:uA [[500000],[500000],qp 10000000000 1000000 100 w h]=true:=by
    cases K:vJ (qp 10000000000 1000000 100 w h)with
    |true=>exact t2 K
    |false=>rw[(t3 K).2,JJ o]
   have p:aJ [[500000],[500000],qp 10000000000 1000000 100 w h]=(([0,1],(0,0),(0,0)),true):=by
    rw[Gg (by rw[t1];exact C) r,of0]
   rw[p,JB rfl]at d;have z2:=bN 10000;have c:dp (0,0):=by
    unfold dp;refine⟨?_,by decide,by decide⟩;show(0:Int)<_;omega
   have G:=good_zero (w:=w) (h:=h);have y:nm ([0,1],(0,0),(0,0))=([0,1],(0,0),(0,0)):=by
    rw[BT];have:ae [0,1]=[0,1]:=iP (.inr (by rw[aN];decide));show(ae [0,1],_,_)=_
    rw[this]
   refine⟨aaX B (aay B λ_ _ h=>by omega) (λ_=>by rw[p];exact⟨c,c⟩) (λ_=>?_),by rw[d],by rw[d,y];exact G⟩;rw[d];unfold pI;refine⟨Ir (by simp) λz L=>?_,(oe c).1,(oe c).1⟩;simp at L;rcases L with rfl|rfl
   . exact qs
   . exact SH
end Go.Proofs.Big
