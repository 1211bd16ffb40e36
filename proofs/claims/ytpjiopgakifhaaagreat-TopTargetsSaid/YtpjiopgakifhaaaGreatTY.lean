import Derived.Test.YtpjiopgakifhaaaGreatTX7
import Derived.Test.YtpjiopgakifhaaaGreatTX8
import Derived.Test.YtpjiopgakifhaaaGreatTX0
import Derived.Test.YtpjiopgakifhaaaGreatTX1
import Derived.Test.YtpjiopgakifhaaaGreatTX2
import Derived.Test.YtpjiopgakifhaaaGreatTX3
import Derived.Test.YtpjiopgakifhaaaGreatTX4
import Derived.Test.YtpjiopgakifhaaaGreatTX5
import Derived.Test.YtpjiopgakifhaaaGreatTX6
import Derived.Test.YtpjiopgakifhaaaGreatTG
import Derived.Test.YtpjiopgakifhaaaGreatTJ
set_option linter.unusedSectionVars false
set_option linter.unusedSimpArgs false
set_option linter.unusedVariables false
set_option maxRecDepth 100000
namespace Go.Proofs.Big
open Go Go.Sx Go.Proofs Go.RowKit Go.Proofs.Top
def tagT (x V:Int) (i:Nat):SV:=match i with
 |0=>pV (tp x V 0)|1=>pV (tp x V 1)|2=>pV (tp x V 2)|3=>pV (tp x V 3)|4=>pV (tp x V 4)|5=>pV (tp x V 5)|6=>pV (tp x V 6)
 |7=>pV (rt x V).1|8=>lV (dz (rt x V).2.1.1)|9=>lV (dz (rt x V).2.2.1)|10=>pV (bE (rt x V).1)
 |11=>pV (tp (-100) (-(V/2)) 0)|12=>pV (tp (-100) (-(V/2)) 1)|13=>pV (tp (-100) (-(V/2)) 2)|14=>pV (tp (-100) (-(V/2)) 3)|15=>pV (tp (-100) (-(V/2)) 4)|16=>pV (tp (-100) (-(V/2)) 5)|17=>pV (tp (-100) (-(V/2)) 6)
 |20=>lV (dz (16*V))|21=>lV (dz V)|22=>lV (dz (24*V))|23=>lV (dz (8*V))|24=>lV (dz (if V%2=0 then 16 else 8))|25=>lV (dz (if V%2=0 then V/2 else V))|26=>lV (dz (if V%2=0 then 1 else 2))|27=>lV (dz (V/2))
 |_=> .aq
theorem tagT_row (x V:Int) (i:Nat):LZ (tagT x V i)=true:=by
 unfold tagT;split<;>rfl
def cL (x V m tk:Int) (i:Nat):Int:=match i with
 |0=>x|1=>V|2=>m|3=>tk|4=> -(V/2)|5=>kX (rt x V)|6=>(rt x V).2.1.2|7=>(rt x V).2.2.2|8=>bl (V/2)|_=>0
@[reducible] def bN (x V m tk:Int):bW:=⟨cL x V m tk,tagT x V,tagT_row x V⟩
section
variable {x V m tk : Int}
theorem tgR : @TgR (bN x V m tk) V:=by
 letI:=bN x V m tk
 exact⟨rfl,rfl,rfl,rfl,rfl,rfl,rfl,rfl,rfl,rfl,rfl⟩
theorem Ou (h1:60<=V) (h2:V<=559): @A8 (bN x V m tk) Tryz.prog fRes:=by
 letI:=bN x V m tk
 refine .cons (res_fact tgR h1 h2)<| .cons ?_ .nil
 have h:c276 (am276.map (iF 14))=some (uP pk eL (B0 V) (B0 V)/\B1 V,iS V):=by rfl
 refine nu k276.1 14 h ⟨?_,by unfold B1;omega⟩ rfl (w_y rfl h1 h2);simp [uP,KY,mA,BG,JW,DM,xC,pg,bK,oP,jU,B0,vc2]
theorem p0_ok (hc:Ap x V=true) {X:SV} (hX:letI:=bN x V m tk;DC (aF .i64) 13 [X] x): @A8 (bN x V m tk) Tryz.prog (Pg X vY 0):=by
 letI:=bN x V m tk
 exact K2 hX Sz (fun i hi=>by
  rcases(show i=0\/i=1\/i=2\/i=3\/i=4\/i=5\/i=6 by omega)with rfl|rfl|rfl|rfl|rfl|rfl|rfl<;>rfl) hc
theorem p11_ok (hc:Ap (-100) (-(V/2))=true): @A8 (bN x V m tk) Tryz.prog (Pg (I (-100)) vA 11):=by
 letI:=bN x V m tk
 exact K2 FQ (Sz (e:= .v 4)) (fun i hi=>by
  rcases(show i=0\/i=1\/i=2\/i=3\/i=4\/i=5\/i=6 by omega)with rfl|rfl|rfl|rfl|rfl|rfl|rfl<;>rfl) hc
theorem JI {e:XE} {hi c:Int} (he:letI:=bN x V m tk;e.den=c) (h0:80800<=c) (h1:c<=20000000):letI:=bN x V m tk;Fact Tryz.prog (Iv e hi).1 (Iv e hi).2.1 (Iv e hi).2.2:=by
 letI:=bN x V m tk
 subst he;refine nu (c:=c197) k197.1 14 (p:=(True/\True/\True)/\C7 e.den 100 640000) (r:= .bool (decide (e.den*e.den<100*100*640000))) (by rfl) ⟨⟨trivial,trivial,trivial⟩,by unfold C7;omega⟩ rfl ?_;have:80800*80800<=e.den*e.den:=Qb h0 h0 (by omega) (by omega);rw [decide_eq_false (by omega)];exact w_b
theorem oq {l:List (Nat×List SV×SV)} {s:SV} (hl: @A8 (bN x V m tk) Tryz.prog l) (hm':letI:=bN x V m tk;cF (XV l) 2000 28 Tryz.f28 [cH,s] (I 0)=true): @Fact (bN x V m tk) Tryz.prog 28 [cH,s] (I 0):=by
 letI:=bN x V m tk
 exact au (ui yf.nil (.cons chk_fact hl)) hm (by kernel_rfl) hm'
end
section
variable {x V m tk : Int}
theorem Wp {e:XE} {lo hi:Int} {H:HT} (h:letI:=bN x V m tk;lo<=e.den/\e.den<=hi) (hH: @yf (bN x V m tk) H): @yf (bN x V m tk) ((e,lo,hi)::H):=by
 intro y hy;simp only [Kd]at hy;rcases hy with rfl|hy
 . exact h
 . exact hH y hy
theorem dk1 : @An (bN x V m tk) (@X1 (bN x V m tk)):=by
 letI:=bN x V m tk
 exact ui yf.nil (.cons (oq .nil vm0)<| .cons (oq .nil vmE) .nil)
theorem vF_ok (h0: -1000<=x) (h1:x<= -101): @Fact (bN x V m tk) Tryz.prog 28 [cH,l4] (I 0):=by
 letI:=bN x V m tk
 exact oq (.cons (JI (c:=0-x*800) rfl (by omega) (by omega)) .nil) vmF
theorem dk2 (h0: -1000<=x) (h1:x<= -101) (h2:60<=V) (h3:x+V<= -101): @An (bN x V m tk) (@X2 (bN x V m tk)):=by
 letI:=bN x V m tk
 exact ui (Wp (show-1000<=x+V/\x+V<= -101 by omega) yf.nil) (.cons (vF_ok h0 h1) .nil)
theorem dk3 (h0: -1000<=x) (h1:x<= -101) (h2:x+V= -100) (hc:Ap x V=true) (hf:(dD (w3 x V)).2=false): @An (bN x V m tk) (@X3 (bN x V m tk)):=by
 letI:=bN x V m tk
 exact ui (Wp (show-100<=x+V/\x+V<= -100 by omega) yf.nil) (.cons (vF_ok h0 h1)<| .cons (K1 (b:=0) rfl rfl hc hf)<|p0_ok hc Sz)
theorem hM_ok {b:Bool} (hb:b=decide (m<=V)) (h1:60<=V) (h2:V<=559) (h3:0<=m) (h4:m<=599) {H:HT} (hH: @yf (bN x V m tk) H): @yf (bN x V m tk) (hM b::H):=by
 letI:=bN x V m tk
 cases b
 . have: ¬m<=V:=of_decide_eq_false hb.symm;exact Wp (show-600<=V-m/\V-m<= -1 by omega) hH
 . have:m<=V:=of_decide_eq_true hb.symm;exact Wp (show 0<=V-m/\V-m<=600 by omega) hH
theorem dk4 {b:Bool} (hb:b=decide (m<=V)) (h1:60<=V) (h2:V<=559) (h3:0<=m) (h4:m<=599) (h5: -1000<=x) (h6:x<= -101) (h7: -100<x+V) (hc:Ap x V=true) (hf:(dD (w3 x V)).2=true) (hq:vF (rt x V)=true) (hn:nbB (rt x V)=true) (hQ:256*x+16*kX (rt x V)*V<= -1): @An (bN x V m tk) (@X4 (bN x V m tk) b):=by
 letI:=bN x V m tk
 obtain⟨_,_,_,q4,q5⟩:=EE hq;unfold nbB at hn;simp only [J2,decide_eq_true_eq]at hn;have hnn:TgN (rt x V) 7:=⟨rfl,rfl,rfl,rfl,rfl,hn.1.1.1.1.1,hn.1.1.1.1.2,hn.1.1.1.2,hn.1.1.2,hn.1.2,hn.2⟩;have hs:0<=kX (rt x V)*16*V:=Ja (by omega) (by omega);have he:16*kX (rt x V)*V=kX (rt x V)*16*V:=by rw [J6 16]
 exact ui (Wp (show-256000<=x*256+kX (rt x V)*16*V/\x*256+kX (rt x V)*16*V<= -1 by omega) (Wp (show-99<=x+V/\x+V<=458 by omega) (hM_ok hb h1 h2 h3 h4 yf.nil)))
  (.cons (vF_ok h5 h6) ((facts_rt (b:=0) rfl rfl hc hf hnn rfl hq rfl).app ((Ou h1 h2).app (p0_ok hc Sz))))
theorem f0_ok (h1:60<=V) (h2:V<=559) (hc:Ap (-100) V=true) (hf:(dD (w3 (-100) V)).2=true) (hr:rt (-100) V=q0) (hc':Ap (-100) (-(V/2))=true) (hf':(dD (w3 (-100) (-(V/2)))).2=false): @A8 (bN (-100) V m tk) Tryz.prog fHit0:=by
 letI:=bN (-100) V m tk
 exact .cons (oq .nil vmZ)<| .cons (fact_ze (b:=0) rfl rfl hc hf hr)<| .cons (K1 (b:=11) rfl rfl hc' hf') ((Ou h1 h2).app ((p0_ok hc FQ).app (p11_ok hc')))
theorem dk5 {b:Bool} (hb:b=decide (m<=V)) (h1:60<=V) (h2:V<=559) (h3:0<=m) (h4:m<=599) (hc:Ap (-100) V=true) (hf:(dD (w3 (-100) V)).2=true) (hr:rt (-100) V=q0) (hc':Ap (-100) (-(V/2))=true) (hf':(dD (w3 (-100) (-(V/2)))).2=false): @An (bN (-100) V m tk) (@X5a (bN (-100) V m tk) b):=by
 letI:=bN (-100) V m tk
 have f0:=f0_ok (m:=m) (tk:=tk) h1 h2 hc hf hr hc' hf';have hX:An X5b:=ui yf.nil f0;have a1:Fact Tryz.prog 141 (D0 vY) (.bp [conT,I 0]):=au hX hm (by kernel_rfl) mA1;have a2:Fact Tryz.prog 141 (D0 vA) (.bp [.aq,I 0]):=au hX hm (by kernel_rfl) mA2;exact ui (hM_ok hb h1 h2 h3 h4 yf.nil) ((A8.cons a1 (.cons a2 .nil)).app (facts_ze.app f0))
theorem dk6 (h0: -20000<=x) (h1:x<= -101): @An (bN x V m tk) (@X6 (bN x V m tk)):=by
 letI:=bN x V m tk
 have hb:A8 Tryz.prog [Iv bx 16000000]:= .cons (JI (c:=0-x*800) rfl (by omega) (by omega)) .nil;exact ui yf.nil (.cons (oq hb vmB)<| .cons (oq hb vmB8) .nil)
theorem dk7 : @An (bN x V m tk) (@X7 (bN x V m tk)):=by
 letI:=bN x V m tk
 exact ui yf.nil (.cons (oq .nil vmA) .nil)
theorem dk8 (h0:101<=x) (h1:x<=25000): @An (bN x V m tk) (@X8 (bN x V m tk)):=by
 letI:=bN x V m tk
 have hb:Fact Tryz.prog 197 [.sy .i64 (.sub (.c 0) bx) 80800 20000000,I 100,I 640000] .ff:=JI (c:=0-(0-x*800)) rfl (by omega) (by omega);exact ui yf.nil (.cons hb<| .cons (oq .nil vmU)<| .cons (oq (.cons hb .nil) vmU8) .nil)
end
structure AD where
 tk : Int
 x : Int
 v : Int
 m : Int
 e : Bool
 aw : Bool
 c : Int
def kS (e:Bool):SV:=match e with
 |true=> .emp
 |false=> .aq
def vS (m:Int):SV:= .agg [S (I 100),S (I 1),S (I 0),S (I 0),S (I 0),S (I 0),S (I 0),S .aq,S (.aI 13 1 fun _=>[.str [119],I 3,I 0,I 0,I (-400),I 0,I 400,I 8,I 0,I 0,I m,I 3,I 9]),S .aq,S .aq,S .aq,S .aq,S .aq,S .aq,S .aq,S .aq,S .aq]
def dv (x v:Int):SV:= .aI 7 1 fun _=>[I 1,I 0,I 0,I x,I 0,I v,I 0]
def jx (tk x v:Int) (e aw:Bool) (c:Int):SV:= .agg [S (I tk),S (dv x v),S (kS e),S (kS e),S (.aI 1 1 fun _=>[.bool aw]),S (.int .u32 c)]
def z6 (a:AD):List SV:=[vS a.m,jx a.tk a.x a.v a.e a.aw 0, .agg [S (.int .u32 a.c),S (I 0),S (I 0)]]
def eD (a:AD):Bool:= !a.aw&&decide (0<a.v)&&decide (a.x<= -100)&&decide (-100<a.x+a.v)
def xN (a:AD):Int:=if eD a=true then a.x-a.v/2 else a.x+a.v
def vN (a:AD):Int:=if eD a=true then-(a.v/2)else a.v
def uH (a:AD):Bool:=if eD a=true then decide (a.m<=a.v)else a.aw&&decide (a.c=0)
def pf (a:AD):Int:=if uH a=true then 512 else 0
def fF (a:AD):Nat:=if eD a=true then 1 else 0
def oL (n:Nat) (v:Int):SV:= .aI 5 n fun _=>[I 1,I 0,I 1,I 0,I v]
def z5 (a:AD):SV:= .bp [jx (a.tk+1) (xN a) (vN a) true (uH a) a.c, .agg [S (oL (fF a) a.v),S (.int .u64 (pf a)),S .aq,S (I 0)],I 0]
def D7 (a:AD):Prop:=0<=a.tk/\a.tk<=200/\0<=a.m/\a.m<=599/\
 ((a.aw=false/\60<=a.v/\a.v<=559/\a.c=0/\((a.e=false/\a.tk=0/\a.x= -1000)\/(a.e=true/\((-1000<=a.x/\a.x+a.v<= -100)\/a.x=xh a.v))))\/
  (a.aw=false/\ -279<=a.v/\a.v<= -30/\ -20000<=a.x/\a.x<= -101/\a.e=true/\(a.c=0\/a.c=8))\/
  (a.aw=true/\60<=a.v/\a.v<=559/\a.e=true/\((a.c=0/\ -1000<=a.x/\a.x<=25000)\/(a.c=8/\101<=a.x/\a.x<=25000))))
section
variable [bW]
theorem ca_conv {P:Program} {f:Nat} {args args':List SV} {res res':SV} (h:Oc P f args' res') (h1:uP pk eL args args') (h2:Vh pk eL res' res):Oc P f args res:=fun R w vals hR hrel=>
 (h R w vals hR (kR (own':=Own.empty) h1 hrel)).mono fun e w' ⟨v,R',k1,k2,k3⟩=>⟨v,R',k1,C3 (Kp.none _ _) h2 k2,k3⟩
end
section
variable [R0 : bW] {x V m tk : Int}
theorem gP (R1:bW) {X:DX} {st o:SV} {c:Int} {a:AD} (hX: @An R1 X) (hP:X.P=Tryz.prog) (hI:X.I 17=some Tryz.f17) (hm':cF X 3000 17 Tryz.f17 [cH,st,eN c] o=true) (he:Gb (OB nH) [cH,st,eN c] [cH,st,eN c]=true)
 (b1: @G0 R1 14 cH) (b2: @G0 R1 14 st) (p1:oS 14 (@iF R1 14 cH)) (p2:oS 14 (@iF R1 14 st)) (p4:oS 14 (@iF R1 14 o))
 (h1:uP pk eL (z6 a) [@iF R1 14 cH, @iF R1 14 st, @iF R1 14 (eN c)]) (h2:Vh pk eL (@iF R1 14 o) (z5 a)): @Oc R0 Tryz.prog 17 (z6 a) (z5 a):=by
 have hF: @Fact R1 Tryz.prog 17 [cH,st,eN c] o:=by
  letI:=R1
  have:=au hX (by rw [hP];exact hm) hI hm';rw [hP]at this;exact this
 have b3: @G0 R1 14 (eN c):=by simp [G0,wK,mO,wI,eN]
 have p3:oS 14 (@iF R1 14 (eN c)):=by simp [oS,iF,wK,mO,wI,eN,eE]
 exact @ca_conv R0 _ _ _ _ _ _ (KO R1 R0 14 hF he rfl rfl ⟨@vh R1 14 _ b1, @vh R1 14 _ b2, @vh R1 14 _ b3,trivial⟩ ⟨oc p1,oc p2,oc p3,trivial⟩ (oc p4)) h1 h2
theorem bT (h3:0<=m) (h4:m<=599): @G0 (bN x V m tk) 14 cH:=by
 have ev: ∀i, @bW.val (bN x V m tk) i=cL x V m tk i:=fun _=>rfl
 simp [G0,wK,mO,wI,cH,lJ,aY,XE.den,ev,cL];omega
theorem pT :oS 14 (@iF (bN x V m tk) 14 cH):=by
 simp [oS,iF,wK,mO,wI,cH,lJ,aY,eE]
theorem ca1 (h1:60<=V) (h2:V<=559) (h3:0<=m) (h4:m<=599):Oc Tryz.prog 17 (z6 ⟨0,-1000,V,m,false,false,0⟩) (z5 ⟨0,-1000,V,m,false,false,0⟩):=by
 have ev: ∀i, @bW.val (bN (-1000) V m 0) i=cL (-1000) V m 0 i:=fun _=>rfl
 refine gP (bN (-1000) V m 0) dk1 rfl (by kernel_rfl) (@tm1 (bN (-1000) V m 0)) (by kernel_rfl) (bT h3 h4) ?_ pT ?_ ?_ ?_ ?_
 . simp [G0,wK,mO,wI,Uj,dX,bF,jB,vY,aY,XE.den,ev,cL];omega
 . simp [oS,iF,wK,mO,wI,Uj,dX,bF,jB,vY,aY,eE]
 . simp [oS,iF,wK,mO,wI,bF,jB,o1,fX,aO,A4,lA,vY,vA,vB,xv,xk,aY,eE]
 . simp [uP,KY,mA,BG,JW,DM,xC,pg,bK,oP,jU,z6,vS,jx,dv,kS,cH,dX,bF,jB,eN,lJ,iF,eE,aY,XE.den,vY,S,I,Y,Uj]
   try simp only [ev,cL,true_and,and_true]
   try omega
 . have hh:eD ⟨0,-1000,V,m,false,false,0⟩=false:=by unfold eD;simp;omega
   simp [Vh,uP,KY,mA,BG,JW,DM,xC,pg,bK,oP,jU,z5,jx,dv,kS,fX,bF,jB,iF,eE,aY,XE.den,vY,vA,vB,xv,xk,S,I,Y,oL,lA,xN,vN,uH,pf,fF,aO,A4,hh,o1]
   try simp only [ev,cL,true_and,and_true]
   try omega
theorem ca2 (h1:60<=V) (h2:V<=559) (h3:0<=m) (h4:m<=599) (t0:0<=tk) (t1:tk<=200) (h5: -1000<=x) (h6:x<= -101) (h7:x+V<= -101):Oc Tryz.prog 17 (z6 ⟨tk,x,V,m,true,false,0⟩) (z5 ⟨tk,x,V,m,true,false,0⟩):=by
 have ev: ∀i, @bW.val (bN x V m tk) i=cL x V m tk i:=fun _=>rfl
 refine gP (bN x V m tk) (dk2 h5 h6 h1 h7) rfl (by kernel_rfl) (@tm2 (bN x V m tk)) (by kernel_rfl) (bT h3 h4) ?_ pT ?_ ?_ ?_ ?_
 . simp [G0,wK,mO,wI,l4,dX,bF,jB,vY,pA,xF,aY,XE.den,ev,cL];omega
 . simp [oS,iF,wK,mO,wI,l4,dX,bF,jB,vY,pA,xF,aY,eE]
 . simp [oS,iF,wK,mO,wI,bF,jB,o2,fX,aO,A4,lA,vY,vA,vB,xv,xk,aY,eE]
 . simp [uP,KY,mA,BG,JW,DM,xC,pg,bK,oP,jU,z6,vS,jx,dv,kS,cH,dX,bF,jB,eN,lJ,iF,eE,aY,XE.den,vY,S,I,Y,pA,xF,l4]
   try simp only [ev,cL,true_and,and_true]
   try omega
 . have hh:eD ⟨tk,x,V,m,true,false,0⟩=false:=by unfold eD;simp;omega
   simp [Vh,uP,KY,mA,BG,JW,DM,xC,pg,bK,oP,jU,z5,jx,dv,kS,fX,bF,jB,iF,eE,aY,XE.den,vY,vA,vB,xv,xk,S,I,Y,oL,lA,xN,vN,uH,pf,fF,aO,A4,hh,o2]
   try simp only [ev,cL,true_and,and_true]
   try omega
theorem ca3 (h1:60<=V) (h2:V<=559) (h3:0<=m) (h4:m<=599) (t0:0<=tk) (t1:tk<=200) (h5: -1000<=x) (h6:x<= -101) (h7:x+V= -100) (hc:Ap x V=true) (hf:(dD (w3 x V)).2=false):Oc Tryz.prog 17 (z6 ⟨tk,x,V,m,true,false,0⟩) (z5 ⟨tk,x,V,m,true,false,0⟩):=by
 have ev: ∀i, @bW.val (bN x V m tk) i=cL x V m tk i:=fun _=>rfl
 refine gP (bN x V m tk) (dk3 h5 h6 h7 hc hf) rfl (by kernel_rfl) (@tm3 (bN x V m tk)) (by kernel_rfl) (bT h3 h4) ?_ pT ?_ ?_ ?_ ?_
 . simp [G0,wK,mO,wI,l4,dX,bF,jB,vY,pA,xF,aY,XE.den,ev,cL];omega
 . simp [oS,iF,wK,mO,wI,l4,dX,bF,jB,vY,pA,xF,aY,eE]
 . simp [oS,iF,wK,mO,wI,bF,jB,o3,fX,aO,A4,lA,vY,vA,vB,xv,xk,aY,eE]
 . simp [uP,KY,mA,BG,JW,DM,xC,pg,bK,oP,jU,z6,vS,jx,dv,kS,cH,dX,bF,jB,eN,lJ,iF,eE,aY,XE.den,vY,S,I,Y,pA,xF,l4]
   try simp only [ev,cL,true_and,and_true]
   try omega
 . have hh:eD ⟨tk,x,V,m,true,false,0⟩=false:=by unfold eD;simp;omega
   simp [Vh,uP,KY,mA,BG,JW,DM,xC,pg,bK,oP,jU,z5,jx,dv,kS,fX,bF,jB,iF,eE,aY,XE.den,vY,vA,vB,xv,xk,S,I,Y,oL,lA,xN,vN,uH,pf,fF,aO,A4,hh,o3]
   try simp only [ev,cL,true_and,and_true]
   try omega
theorem ca4t (h1:60<=V) (h2:V<=559) (h3:0<=m) (h4:m<=599) (t0:0<=tk) (t1:tk<=200) (h5: -1000<=x) (h6:x<= -101) (hb:true=decide (m<=V)) (h7: -100<x+V) (hc:Ap x V=true) (hf:(dD (w3 x V)).2=true) (hq:vF (rt x V)=true) (hn:nbB (rt x V)=true) (hQ:256*x+16*kX (rt x V)*V<= -1):Oc Tryz.prog 17 (z6 ⟨tk,x,V,m,true,false,0⟩) (z5 ⟨tk,x,V,m,true,false,0⟩):=by
 have ev: ∀i, @bW.val (bN x V m tk) i=cL x V m tk i:=fun _=>rfl
 refine gP (bN x V m tk) (dk4 hb h1 h2 h3 h4 h5 h6 h7 hc hf hq hn hQ) rfl (by kernel_rfl) (@tm4t (bN x V m tk)) (by kernel_rfl) (bT h3 h4) ?_ pT ?_ ?_ ?_ ?_
 . simp [G0,wK,mO,wI,l4,dX,bF,jB,vY,pA,xF,aY,XE.den,ev,cL];omega
 . simp [oS,iF,wK,mO,wI,l4,dX,bF,jB,vY,pA,xF,aY,eE]
 . simp [oS,iF,wK,mO,wI,bF,jB,o4,fX,aO,A4,lA,vY,vA,vB,xv,xk,aY,eE]
 . simp [uP,KY,mA,BG,JW,DM,xC,pg,bK,oP,jU,z6,vS,jx,dv,kS,cH,dX,bF,jB,eN,lJ,iF,eE,aY,XE.den,vY,S,I,Y,pA,xF,l4]
   try simp only [ev,cL,true_and,and_true]
   try omega
 . have hh:eD ⟨tk,x,V,m,true,false,0⟩=true:=by unfold eD;simp;omega
   simp [Vh,uP,KY,mA,BG,JW,DM,xC,pg,bK,oP,jU,z5,jx,dv,kS,fX,bF,jB,iF,eE,aY,XE.den,vY,vA,vB,xv,xk,S,I,Y,oL,lA,xN,vN,uH,pf,fF,aO,A4,hh,<-hb,o4]
   try simp only [ev,cL,true_and,and_true]
   try omega
theorem ca4f (h1:60<=V) (h2:V<=559) (h3:0<=m) (h4:m<=599) (t0:0<=tk) (t1:tk<=200) (h5: -1000<=x) (h6:x<= -101) (hb:false=decide (m<=V)) (h7: -100<x+V) (hc:Ap x V=true) (hf:(dD (w3 x V)).2=true) (hq:vF (rt x V)=true) (hn:nbB (rt x V)=true) (hQ:256*x+16*kX (rt x V)*V<= -1):Oc Tryz.prog 17 (z6 ⟨tk,x,V,m,true,false,0⟩) (z5 ⟨tk,x,V,m,true,false,0⟩):=by
 have ev: ∀i, @bW.val (bN x V m tk) i=cL x V m tk i:=fun _=>rfl
 refine gP (bN x V m tk) (dk4 hb h1 h2 h3 h4 h5 h6 h7 hc hf hq hn hQ) rfl (by kernel_rfl) (@tm4f (bN x V m tk)) (by kernel_rfl) (bT h3 h4) ?_ pT ?_ ?_ ?_ ?_
 . simp [G0,wK,mO,wI,l4,dX,bF,jB,vY,pA,xF,aY,XE.den,ev,cL];omega
 . simp [oS,iF,wK,mO,wI,l4,dX,bF,jB,vY,pA,xF,aY,eE]
 . simp [oS,iF,wK,mO,wI,bF,jB,o4,fX,aO,A4,lA,vY,vA,vB,xv,xk,aY,eE]
 . simp [uP,KY,mA,BG,JW,DM,xC,pg,bK,oP,jU,z6,vS,jx,dv,kS,cH,dX,bF,jB,eN,lJ,iF,eE,aY,XE.den,vY,S,I,Y,pA,xF,l4]
   try simp only [ev,cL,true_and,and_true]
   try omega
 . have hh:eD ⟨tk,x,V,m,true,false,0⟩=true:=by unfold eD;simp;omega
   simp [Vh,uP,KY,mA,BG,JW,DM,xC,pg,bK,oP,jU,z5,jx,dv,kS,fX,bF,jB,iF,eE,aY,XE.den,vY,vA,vB,xv,xk,S,I,Y,oL,lA,xN,vN,uH,pf,fF,aO,A4,hh,<-hb,o4]
   try simp only [ev,cL,true_and,and_true]
   try omega
theorem ca5t (h1:60<=V) (h2:V<=559) (h3:0<=m) (h4:m<=599) (t0:0<=tk) (t1:tk<=200) (hb:true=decide (m<=V)) (hc:Ap (-100) V=true) (hf:(dD (w3 (-100) V)).2=true) (hr:rt (-100) V=q0) (hc':Ap (-100) (-(V/2))=true) (hf':(dD (w3 (-100) (-(V/2)))).2=false):Oc Tryz.prog 17 (z6 ⟨tk,-100,V,m,true,false,0⟩) (z5 ⟨tk,-100,V,m,true,false,0⟩):=by
 have ev: ∀i, @bW.val (bN (-100) V m tk) i=cL (-100) V m tk i:=fun _=>rfl
 refine gP (bN (-100) V m tk) (dk5 hb h1 h2 h3 h4 hc hf hr hc' hf') rfl (by kernel_rfl) (@tm5t (bN (-100) V m tk)) (by kernel_rfl) (bT h3 h4) ?_ pT ?_ ?_ ?_ ?_
 . simp [G0,wK,mO,wI,B3,dX,bF,jB,vY,pA,aY,XE.den,ev,cL];omega
 . simp [oS,iF,wK,mO,wI,B3,dX,bF,jB,vY,pA,aY,eE]
 . simp [oS,iF,wK,mO,wI,bF,jB,o5,fX,aO,A4,lA,vY,vA,vB,xv,xk,aY,eE]
 . simp [uP,KY,mA,BG,JW,DM,xC,pg,bK,oP,jU,z6,vS,jx,dv,kS,cH,dX,bF,jB,eN,lJ,iF,eE,aY,XE.den,vY,S,I,Y,pA,B3]
   try simp only [ev,cL,true_and,and_true]
   try omega
 . have hh:eD ⟨tk,-100,V,m,true,false,0⟩=true:=by unfold eD;simp;omega
   simp [Vh,uP,KY,mA,BG,JW,DM,xC,pg,bK,oP,jU,z5,jx,dv,kS,fX,bF,jB,iF,eE,aY,XE.den,vY,vA,vB,xv,xk,S,I,Y,oL,lA,xN,vN,uH,pf,fF,aO,A4,hh,<-hb,o5]
   try simp only [ev,cL,true_and,and_true]
   try omega
theorem ca5f (h1:60<=V) (h2:V<=559) (h3:0<=m) (h4:m<=599) (t0:0<=tk) (t1:tk<=200) (hb:false=decide (m<=V)) (hc:Ap (-100) V=true) (hf:(dD (w3 (-100) V)).2=true) (hr:rt (-100) V=q0) (hc':Ap (-100) (-(V/2))=true) (hf':(dD (w3 (-100) (-(V/2)))).2=false):Oc Tryz.prog 17 (z6 ⟨tk,-100,V,m,true,false,0⟩) (z5 ⟨tk,-100,V,m,true,false,0⟩):=by
 have ev: ∀i, @bW.val (bN (-100) V m tk) i=cL (-100) V m tk i:=fun _=>rfl
 refine gP (bN (-100) V m tk) (dk5 hb h1 h2 h3 h4 hc hf hr hc' hf') rfl (by kernel_rfl) (@tm5f (bN (-100) V m tk)) (by kernel_rfl) (bT h3 h4) ?_ pT ?_ ?_ ?_ ?_
 . simp [G0,wK,mO,wI,B3,dX,bF,jB,vY,pA,aY,XE.den,ev,cL];omega
 . simp [oS,iF,wK,mO,wI,B3,dX,bF,jB,vY,pA,aY,eE]
 . simp [oS,iF,wK,mO,wI,bF,jB,o5,fX,aO,A4,lA,vY,vA,vB,xv,xk,aY,eE]
 . simp [uP,KY,mA,BG,JW,DM,xC,pg,bK,oP,jU,z6,vS,jx,dv,kS,cH,dX,bF,jB,eN,lJ,iF,eE,aY,XE.den,vY,S,I,Y,pA,B3]
   try simp only [ev,cL,true_and,and_true]
   try omega
 . have hh:eD ⟨tk,-100,V,m,true,false,0⟩=true:=by unfold eD;simp;omega
   simp [Vh,uP,KY,mA,BG,JW,DM,xC,pg,bK,oP,jU,z5,jx,dv,kS,fX,bF,jB,iF,eE,aY,XE.den,vY,vA,vB,xv,xk,S,I,Y,oL,lA,xN,vN,uH,pf,fF,aO,A4,hh,<-hb,o5]
   try simp only [ev,cL,true_and,and_true]
   try omega
theorem ca6 (h1: -279<=V) (h2:V<= -30) (h3:0<=m) (h4:m<=599) (t0:0<=tk) (t1:tk<=200) (h5: -20000<=x) (h6:x<= -101):Oc Tryz.prog 17 (z6 ⟨tk,x,V,m,true,false,0⟩) (z5 ⟨tk,x,V,m,true,false,0⟩):=by
 have ev: ∀i, @bW.val (bN x V m tk) i=cL x V m tk i:=fun _=>rfl
 refine gP (bN x V m tk) (dk6 h5 h6) rfl (by kernel_rfl) (@tm6 (bN x V m tk)) (by kernel_rfl) (bT h3 h4) ?_ pT ?_ ?_ ?_ ?_
 . simp [G0,wK,mO,wI,Dl,dX,bF,jB,vY,pA,xB,vB,aY,XE.den,ev,cL];omega
 . simp [oS,iF,wK,mO,wI,Dl,dX,bF,jB,vY,pA,xB,vB,aY,eE]
 . simp [oS,iF,wK,mO,wI,bF,jB,o6,fX,aO,A4,lA,vY,vA,vB,xv,xk,aY,eE]
 . simp [uP,KY,mA,BG,JW,DM,xC,pg,bK,oP,jU,z6,vS,jx,dv,kS,cH,dX,bF,jB,eN,lJ,iF,eE,aY,XE.den,vY,S,I,Y,pA,xB,vB,Dl]
   try simp only [ev,cL,true_and,and_true]
   try omega
 . have hh:eD ⟨tk,x,V,m,true,false,0⟩=false:=by unfold eD;simp;omega
   simp [Vh,uP,KY,mA,BG,JW,DM,xC,pg,bK,oP,jU,z5,jx,dv,kS,fX,bF,jB,iF,eE,aY,XE.den,vY,vA,vB,xv,xk,S,I,Y,oL,lA,xN,vN,uH,pf,fF,aO,A4,hh,o6]
   try simp only [ev,cL,true_and,and_true]
   try omega
theorem ca6c (h1: -279<=V) (h2:V<= -30) (h3:0<=m) (h4:m<=599) (t0:0<=tk) (t1:tk<=200) (h5: -20000<=x) (h6:x<= -101):Oc Tryz.prog 17 (z6 ⟨tk,x,V,m,true,false,8⟩) (z5 ⟨tk,x,V,m,true,false,8⟩):=by
 have ev: ∀i, @bW.val (bN x V m tk) i=cL x V m tk i:=fun _=>rfl
 refine gP (bN x V m tk) (dk6 h5 h6) rfl (by kernel_rfl) (@tm6c (bN x V m tk)) (by kernel_rfl) (bT h3 h4) ?_ pT ?_ ?_ ?_ ?_
 . simp [G0,wK,mO,wI,Dl,dX,bF,jB,vY,pA,xB,vB,aY,XE.den,ev,cL];omega
 . simp [oS,iF,wK,mO,wI,Dl,dX,bF,jB,vY,pA,xB,vB,aY,eE]
 . simp [oS,iF,wK,mO,wI,bF,jB,o6,fX,aO,A4,lA,vY,vA,vB,xv,xk,aY,eE]
 . simp [uP,KY,mA,BG,JW,DM,xC,pg,bK,oP,jU,z6,vS,jx,dv,kS,cH,dX,bF,jB,eN,lJ,iF,eE,aY,XE.den,vY,S,I,Y,pA,xB,vB,Dl]
   try simp only [ev,cL,true_and,and_true]
   try omega
 . have hh:eD ⟨tk,x,V,m,true,false,8⟩=false:=by unfold eD;simp;omega
   simp [Vh,uP,KY,mA,BG,JW,DM,xC,pg,bK,oP,jU,z5,jx,dv,kS,fX,bF,jB,iF,eE,aY,XE.den,vY,vA,vB,xv,xk,S,I,Y,oL,lA,xN,vN,uH,pf,fF,aO,A4,hh,o6]
   try simp only [ev,cL,true_and,and_true]
   try omega
theorem ca7 (h1:60<=V) (h2:V<=559) (h3:0<=m) (h4:m<=599) (t0:0<=tk) (t1:tk<=200) (h5: -1000<=x) (h6:x<=25000):Oc Tryz.prog 17 (z6 ⟨tk,x,V,m,true,true,0⟩) (z5 ⟨tk,x,V,m,true,true,0⟩):=by
 have ev: ∀i, @bW.val (bN x V m tk) i=cL x V m tk i:=fun _=>rfl
 refine gP (bN x V m tk) dk7 rfl (by kernel_rfl) (@tm7 (bN x V m tk)) (by kernel_rfl) (bT h3 h4) ?_ pT ?_ ?_ ?_ ?_
 . simp [G0,wK,mO,wI,Tb,dX,bF,jB,vY,pA,xA,aY,XE.den,ev,cL];omega
 . simp [oS,iF,wK,mO,wI,Tb,dX,bF,jB,vY,pA,xA,aY,eE]
 . simp [oS,iF,wK,mO,wI,bF,jB,o7,fX,aO,A4,lA,vY,vA,vB,xv,xk,aY,eE]
 . simp [uP,KY,mA,BG,JW,DM,xC,pg,bK,oP,jU,z6,vS,jx,dv,kS,cH,dX,bF,jB,eN,lJ,iF,eE,aY,XE.den,vY,S,I,Y,pA,xA,Tb]
   try simp only [ev,cL,true_and,and_true]
   try omega
 . have hh:eD ⟨tk,x,V,m,true,true,0⟩=false:=by unfold eD;rfl
   simp [Vh,uP,KY,mA,BG,JW,DM,xC,pg,bK,oP,jU,z5,jx,dv,kS,fX,bF,jB,iF,eE,aY,XE.den,vY,vA,vB,xv,xk,S,I,Y,oL,lA,xN,vN,uH,pf,fF,aO,A4,hh,o7]
   try simp only [ev,cL,true_and,and_true]
   try omega
theorem ca8 (h1:60<=V) (h2:V<=559) (h3:0<=m) (h4:m<=599) (t0:0<=tk) (t1:tk<=200) (h5:101<=x) (h6:x<=25000):Oc Tryz.prog 17 (z6 ⟨tk,x,V,m,true,true,8⟩) (z5 ⟨tk,x,V,m,true,true,8⟩):=by
 have ev: ∀i, @bW.val (bN x V m tk) i=cL x V m tk i:=fun _=>rfl
 refine gP (bN x V m tk) (dk8 h5 h6) rfl (by kernel_rfl) (@tm8 (bN x V m tk)) (by kernel_rfl) (bT h3 h4) ?_ pT ?_ ?_ ?_ ?_
 . simp [G0,wK,mO,wI,V8,dX,bF,jB,vY,pA,xU,aY,XE.den,ev,cL];omega
 . simp [oS,iF,wK,mO,wI,V8,dX,bF,jB,vY,pA,xU,aY,eE]
 . simp [oS,iF,wK,mO,wI,bF,jB,o8,fX,aO,A4,lA,vY,vA,vB,xv,xk,aY,eE]
 . simp [uP,KY,mA,BG,JW,DM,xC,pg,bK,oP,jU,z6,vS,jx,dv,kS,cH,dX,bF,jB,eN,lJ,iF,eE,aY,XE.den,vY,S,I,Y,pA,xU,V8]
   try simp only [ev,cL,true_and,and_true]
   try omega
 . have hh:eD ⟨tk,x,V,m,true,true,8⟩=false:=by unfold eD;rfl
   simp [Vh,uP,KY,mA,BG,JW,DM,xC,pg,bK,oP,jU,z5,jx,dv,kS,fX,bF,jB,iF,eE,aY,XE.den,vY,vA,vB,xv,xk,S,I,Y,oL,lA,xN,vN,uH,pf,fF,aO,A4,hh,o8]
   try simp only [ev,cL,true_and,and_true]
   try omega
end
attribute [irreducible] D7
end Go.Proofs.Big
namespace Go.Proofs.Big
open Go Go.Sx Go.Proofs Go.RowKit Go.Proofs.Top
theorem Gy {V:Int} (h1:60<=V): -1000<=xh V/\xh V<= -100/\ -100<xh V+V:=by
 unfold xh;have a1:=Int.ediv_mul_le 900 (show V≠0 by omega);have a2:=Zi 900 (show 0<V by omega);have a3:(900/V+1)*V=900/V*V+V:=by rw [Qo,K8]
 have a4:0<=900/V*V:=Ja (Kb (by omega) (by omega)) (by omega);omega
theorem ckH_get {V:Int} (h:ckH V=true):Ap (xh V) V=true/\(dD (w3 (xh V) V)).2=true/\(xh V= -100->rt (xh V) V=q0)/\(xh V≠ -100->vF (rt (xh V) V)=true/\nbB (rt (xh V) V)=true/\256*xh V+16*kX (rt (xh V) V)*V<= -1):=by
 unfold ckH at h;simp only [J2]at h;refine⟨h.1.1,h.1.2,fun e=> ?_,fun e=> ?_⟩
 . have h2:=h.2;rw [decide_eq_true e]at h2;exact of_decide_eq_true h2
 . have h2:=h.2;rw [decide_eq_false e]at h2;simp only [J2,decide_eq_true_eq]at h2;exact⟨h2.1.1,h2.1.2,h2.2⟩
theorem ca17 [R0:bW] (a:AD) (h:D7 a):Oc Tryz.prog 17 (z6 a) (z5 a):=by
 obtain⟨tk,x,v,m,e,aw,c⟩:=a;unfold D7 at h;dsimp only at h;obtain⟨t0,t1,h3,h4,h|h|h⟩:=h
 . obtain⟨rfl,h1,h2,rfl,h⟩:=h;obtain⟨k1,k2,k3⟩:=ckV_all h1 h2;rcases h with⟨rfl,rfl,rfl⟩|⟨rfl,h⟩
   . exact ca1 h1 h2 h3 h4
   . rcases h with⟨h5,h6⟩|rfl
     . by_cases he:x+v= -100
       . have hx:x= -100-v:=by omega
         subst hx;unfold ckT at k2;simp only [J2,Yx]at k2;exact ca3 h1 h2 h3 h4 t0 t1 h5 (by omega) he k2.1 k2.2
       . exact ca2 h1 h2 h3 h4 t0 t1 h5 (by omega) (by omega)
     . obtain⟨b1,b2,b3⟩:=Gy h1;obtain⟨q1,q2,q3,q4⟩:=ckH_get k1
       by_cases he:xh v= -100
       . unfold ckA at k3;simp only [J2,Yx]at k3;have q3:=q3 he;rw [he]at q1 q2 q3⊢;cases hb:decide (m<=v)
         . exact ca5f h1 h2 h3 h4 t0 t1 hb.symm q1 q2 q3 k3.1 k3.2
         . exact ca5t h1 h2 h3 h4 t0 t1 hb.symm q1 q2 q3 k3.1 k3.2
       . obtain⟨r1,r2,r3⟩:=q4 he;cases hb:decide (m<=v)
         . exact ca4f h1 h2 h3 h4 t0 t1 b1 (by omega) hb.symm b3 q1 q2 r1 r2 r3
         . exact ca4t h1 h2 h3 h4 t0 t1 b1 (by omega) hb.symm b3 q1 q2 r1 r2 r3
 . obtain⟨rfl,h1,h2,h5,h6,rfl,rfl|rfl⟩:=h
   . exact ca6 h1 h2 h3 h4 t0 t1 h5 h6
   . exact ca6c h1 h2 h3 h4 t0 t1 h5 h6
 . obtain⟨rfl,h1,h2,rfl,⟨rfl,h5,h6⟩|⟨rfl,h5,h6⟩⟩:=h
   . exact ca7 h1 h2 h3 h4 t0 t1 h5 h6
   . exact ca8 h1 h2 h3 h4 t0 t1 h5 h6
def rdB (x:SV):Bool:=match x with
 | .bool b=>b
 | .tt=>true
 |_=>false
def rdE (x:SV):Bool:=match x with
 | .aq=>false
 |_=>true
def rd17 :List SV->Option AD:=fun l=>match l with
 |[.agg t, .agg s, .agg d]=>match (t[8]?:Option ar),(s[0]?:Option ar),(s[1]?:Option ar),(s[2]?:Option ar),(s[4]?:Option ar),(d[0]?:Option ar)with
  |some (.s (.aI _ _ f)),some (.s (.int _ tk)),some (.s (.aI _ _ g)),some (.s k),some (.s (.aI _ _ h)),some (.s (.int _ c))=>match f 0,g 0,h 0 with
   |[_,_,_,_,_,_,_,_,_,_, .int _ m,_,_],[_,_,_, .int _ x,_, .int _ v,_],[b]=>some ⟨tk,x,v,m,rdE k,rdB b,c⟩
   |_,_,_=>none
  |_,_,_,_,_,_=>none
 |_=>none
def c17 :bB:=Pz rd17 D7 z6 z5
theorem Wu [bW]:cS Tryz.prog 17 c17:=fn_of ⟨Tryz.f17,Tryz.func17,by kernel_rfl,by kernel_rfl⟩ fun a h=>ca17 a h
end Go.Proofs.Big
namespace Go.Proofs.Big
open Go Go.Sx Go.Proofs
variable [bW]
set_option maxHeartbeats 4000000
abbrev H5 :=Int×Int×Int×Int×Int
def xf :wN H5 where
 n:=5
 enc a:=[.int .i64 a.1, .int .i64 a.2.1, .int .i64 a.2.2.1, .int .i64 a.2.2.2.1, .int .i64 a.2.2.2.2]
 dec:=fun|[x0,x1,x2,x3,x4]=>oB (rI .i64 x0) fun a0=>oB (rI .i64 x1) fun a1=>oB (rI .i64 x2) fun a2=>oB (rI .i64 x3) fun a3=>oB (rI .i64 x4) fun a4=>some (a0,a1,a2,a3,a4)|_=>none
 qW:=(0,0,0,0,0)
 ak _:=True
 kW _:=trivial
 ok l a h _:=by
  split at h
  case h_2=>cases h
  obtain⟨a0,h0,h⟩:=gQ h;obtain⟨a1,h1,h⟩:=gQ h;obtain⟨a2,h2,h⟩:=gQ h;obtain⟨a3,h3,h⟩:=gQ h;obtain⟨a4,h4,h⟩:=gQ h;cases h;exact⟨vX h0,vX h1,vX h2,vX h3,vX h4,trivial⟩
 self a:=by simp only [oI,oB]
 len _:=rfl
 Aa c x y a b h k:=by
  split at h
  case h_2=>cases h
  split at k
  case h_2=>cases k
  obtain⟨a0,h0,h⟩:=gQ h;obtain⟨b0,k0,k⟩:=gQ k;obtain⟨a1,h1,h⟩:=gQ h;obtain⟨b1,k1,k⟩:=gQ k;obtain⟨a2,h2,h⟩:=gQ h;obtain⟨b2,k2,k⟩:=gQ k;obtain⟨a3,h3,h⟩:=gQ h;obtain⟨b3,k3,k⟩:=gQ k;obtain⟨a4,h4,h⟩:=gQ h;obtain⟨b4,k4,k⟩:=gQ k;cases h;cases k;simp only [af,Py h0 k0,Py h1 k1,Py h2 k2,Py h3 k3,Py h4 k4,oB];cases c<;>rfl
theorem codH_z : ∀l a,xf.dec l=some a->xf.ak l->oP l (xf.enc a):=by
 intro l a h _;simp only [xf]at h⊢;split at h
 case h_2=>cases h
 obtain⟨a0,h0,h⟩:=gQ h;obtain⟨a1,h1,h⟩:=gQ h;obtain⟨a2,h2,h⟩:=gQ h;obtain⟨a3,h3,h⟩:=gQ h;obtain⟨a4,h4,h⟩:=gQ h;cases h;rw [Fk h0,Fk h1,Fk h2,Fk h3,Fk h4];exact⟨rfl,rfl,rfl,rfl,rfl,trivial⟩
abbrev mv :wN (List H5):=OE xf codH_z
abbrev oR :wN (List Int):=OE (aF .i64) UW
abbrev jA :=List H5×Int×List Int×Int
def Dh :wN jA where
 n:=4
 enc a:=mv.enc a.1++((aF .u64).enc a.2.1++(oR.enc a.2.2.1++(aF .i64).enc a.2.2.2))
 dec l:=match l with|[p,x,y,z]=>oB (mv.dec [p]) fun a=>oB (rI .u64 x) fun b=>oB (oR.dec [y]) fun c=>oB (rI .i64 z) fun d=>some (a,b,c,d)|_=>none
 qW:=([],0,[],0)
 ak l:=match l with|[p,x,y,z]=>mv.ak [p]/\oR.ak [y]|_=>True
 ok l a h hg:=by
  split at h
  case h_2=>cases h
  obtain⟨a1,h1,h⟩:=gQ h;obtain⟨a2,h2,h⟩:=gQ h;obtain⟨a3,h3,h⟩:=gQ h;obtain⟨a4,h4,h⟩:=gQ h;cases h;obtain⟨g1,g2⟩:=hg;exact⟨(mv.ok _ _ h1 g1).1,vX h2,(oR.ok _ _ h3 g2).1,vX h4,trivial⟩
 self a:=by
  have h1:mv.dec (mv.enc a.1)=some a.1:=mv.self a.1;have h3:oR.dec (oR.enc a.2.2.1)=some a.2.2.1:=oR.self a.2.2.1;show oB (mv.dec (mv.enc a.1)) (fun p=>oB (rI .u64 (.int .u64 a.2.1)) fun b=>oB (oR.dec (oR.enc a.2.2.1)) fun c=>oB (rI .i64 (.int .i64 a.2.2.2)) fun d=>some (p,b,c,d))=some a
  rw [h1,h3,oI,oI];rfl
 kW a:=⟨mv.kW a.1,oR.kW a.2.2.1⟩
 len _:=rfl
 Aa c x y a b h k:=by
  split at h
  case h_2=>cases h
  split at k
  case h_2=>cases k
  obtain⟨a1,h1,h⟩:=gQ h;obtain⟨a2,h2,h⟩:=gQ h;obtain⟨a3,h3,h⟩:=gQ h;obtain⟨a4,h4,h⟩:=gQ h;obtain⟨b1,k1,k⟩:=gQ k;obtain⟨b2,k2,k⟩:=gQ k;obtain⟨b3,k3,k⟩:=gQ k;obtain⟨b4,k4,k⟩:=gQ k;cases h;cases k;have e1:=mv.Aa c _ _ _ _ h1 k1;have e3:=oR.Aa c _ _ _ _ h3 k3;simp only [af]at e1 e3⊢;simp only [e1,e3,Py h2 k2,Py h4 k4,oB];cases c<;>rfl
@[simp] theorem codO_n :Dh.n=4:=rfl
@[simp] theorem codO_dft :Dh.qW=([],0,[],0):=rfl
def c40 :SV:= .aI 3 40 fun _=>[.int .u32 0,I 0,I 0]
def arR (a:Int×Int×Int×Bool):List SV:=[vS a.2.2.1,jx a.1 (-1000) a.2.1 true a.2.2.2 0,c40]
def sgRun :iR (Int×Int×Int×Bool) where
 n:=3
 enc:=arR
 dec l:=match l with
  |[t,s,_]=>match rd17 [t,s, .agg [S (.int .u32 0)]]with
   |some a=>some (uP pk eL l (arR (a.tk,a.v,a.m,a.aw)),(a.tk,a.v,a.m,a.aw))
   |none=>none
  |_=>none
 ok l p a h hp:=by
  dsimp only at h;split at h
  case h_2=>cases h
  split at h
  case h_2=>cases h
  simp only [J3,Q4]at h;obtain⟨rfl,rfl⟩:=h;exact⟨hp,rfl⟩
def wR (v:Int) (aw:Bool) (i:Int):Int:=if aw=true then-1000+i*v else if i<=900/v then-1000+i*v else xh v-(i-900/v)*(v/2)
def tB (v:Int) (aw:Bool) (i:Int):Int:=if aw=true then v else if i<=900/v then v else-(v/2)
def Fv (v:Int) (aw:Bool) (i:Int):jA:=(if aw=false/\i=900/v then [(1,0,1,0,v)]else [],if aw=true then 512 else 0,[],0)
def yI (v:Int) (aw:Bool) (i:Int):List jA:=(List.range i.toNat).map fun(k:Nat)=>Fv v aw k
def ue (tk v m:Int) (aw:Bool):Prop:=0<=tk/\tk<=100/\60<=v/\v<=559/\0<=m/\m<=599/\aw=decide (m<=v)
def w6 (v:Int) (aw:Bool) (i:Int) (l:List jA):Prop:=0<=i/\i<=40/\l=yI v aw i
attribute [irreducible] wR tB Fv yI ue w6
def stR (tk v:Int) (aw:Bool):Port where
 T:=Int
 rd s k:=Ao s (.tm 10) fun x=>match x with
  | .int _ i=>k i
  |_=>False
 ws _ i:=[(.tm 10, .v (.int .i64 i)),(.sg 1 0, .s (.s (I (tk+i)))),(.sg 1 1, .s (.s (dv (wR v aw i) (tB v aw i)))),(.sg 1 2, .s (.s .emp)),(.sg 1 3, .s (.s .emp)),(.sg 1 4, .s (.s (.aI 1 1 fun _=>[.bool aw]))),(.sg 1 5, .s (.s (.int .u32 0)))]
 all k:= ∀i,k i
 ok s k h:=by
  obtain⟨x,h⟩:=rj h;split at h
  . exact⟨_,h⟩
  . exact h.elim
 oT k h x:=h x
def T17 :List (Nat×bB):=[(17,c17)]
def c12 :bB:=fl sgRun.dec (fun a=>ue a.1 a.2.1 a.2.2.1 a.2.2.2) (fun a=> .bp [jx (a.1+40) (wR a.2.1 a.2.2.2 40) (tB a.2.1 a.2.2.2 40) true a.2.2.2 0,(zN Dh).enc (yI a.2.1 a.2.2.2 40), .tt])
def T12 :List (Nat×bB):=(12,c12)::T17
def a12 (tk:Int) (v:Int) (m:Int) (aw:Bool):List kM:=[⟨.unit, .list [stR tk v aw, .ah Dh 3 56 [.tm 9]],fun _ (x:Int×List jA)=>w6 v aw x.1 x.2,fun _ (x:Int×List jA)=>(40-x.1).toNat⟩]
def vc12 (tk:Int) (v:Int) (m:Int) (aw:Bool):Prop:=fQ T17 Tryz.f12 (a12 tk v m aw) [vS m,jx tk (-1000) v true aw 0,c40] (.bp [jx (tk+40) (wR v aw 40) (tB v aw 40) true aw 0,(zN Dh).enc (yI v aw 40), .tt])
theorem vc12_eq (tk:Int) (v:Int) (m:Int) (aw:Bool):(
 let d:=sm (0:Int)
 let h:=d/\True
 let c4:=d/\d/\h
 let c5:=sm 40/\ ∀(i:Nat),i<40->c4
 let A:=sm 0
 let c6:=ab 31 True
 let c7:=SV.int IntKind.i64 0
 let t:=ar.s c7
 let g:=ar.s SV.aq
 let c8:=[(119:UInt8)]
 let f:=I 0
 let B:=([]:List SV)
 let F:=([]:List ar)
 let C:=g::F
 let G:=fun(v:Int)=>List.map ar.shape (ar.s (SV.int IntKind.i64 100)::ar.s (SV.int IntKind.i64 1)::t::t::t::t::t::g::ar.s (SV.aI 13 1
  fun x=>SV.str c8::I 3::f::f::I (-400)::f::I 400::I 8::f::f::I v::I 3::I 9::B)::g::g::g::g::g::g::g::g::C)
 let D:=sm (1:Int)
 let q:=sm 1
 let k:=fun(x:Nat)=>x<1
 let c9:=sm (3:Int)
 let O:=fun(x:Int)=>sm (100:Int)/\D/\d/\d/\d/\d/\d/\True/\(q/\ ∀(i:Nat),k i->sm c8/\c9/\d/\d/\sm (-400:Int)/\d/\sm (400:Int)/\sm
  (8:Int)/\d/\d/\x=x/\c9/\sm (9:Int)/\True)/\ab (9:Nat) True
 let P:=I 1
 let d0:=ar.s (SV.int IntKind.u32 0)::F
 let H:=fun(v m:Int) (x1:Bool)=>List.map ar.shape (ar.s (SV.int IntKind.i64 v)::ar.s (SV.aI 7 1 fun x=>P::f::f::I (-1000)::f::I m::f
  ::B)::ar.s SV.emp::ar.s SV.emp::ar.s (SV.aI 1 1 fun x=>SV.bool x1::B)::d0)
 let d1:=fun(x:Bool)=>ab 2 ((q/\ ∀(i:Nat),k i->x=x/\True)/\h)
 let J:=List.map ar.shape (t::F++(C++(C++(C++(C++(d0++F))))))
 let d2:=d/\ab 4 h
 let K:=Dh
 let Q:=K.n
 let r:=fun(s x1 y1 u1:Int) (v1:Bool)=>{tk:=s+x1,x:=wR y1 v1 x1,v:=tB y1 v1 x1,m:=u1,e:=true,aw:=rdB (SV.bool v1),c:=0:AD}
 let o:=fun(x:List jA)=>x.length
 let d3:=fun(x:List jA)=>0+o x<=o x/\ ∀(i:Nat),i<o x->true=true
 let d4:=fun(x v m:Int) (s:Bool)=>x+v=x+40/\(q/\ ∀(i_1:Nat),k i_1->D/\d/\d/\wR m s v=wR m s 40/\d/\tB m s v=tB m s 40/\h)/\d1
  s
 let p:=K.qW
 let L:=fun(x:List jA) (v:Nat)=>(x.getD (0+v) p).fst
 let R:=fun(x:Int) (v:Bool) (m:Nat)=>((yI x v 40).getD m p).fst
 let u:=xf.qW
 let T:=fun(x:List jA) (v m:Nat)=>((L x v).getD m u).snd
 let c0:=fun(x:Int) (v:Bool) (m s:Nat)=>((R x v m).getD s u).snd
 let d5:=fun(x:List jA) (v m:Nat)=>(T x v m).snd.snd
 let d6:=fun(x:Int) (v:Bool) (m s:Nat)=>(c0 x v m s).snd.snd
 let d7:=fun(x:List jA) (v:Nat)=>(x.getD (0+v) p).snd
 let c1:=fun(x:Int) (v:Bool) (m:Nat)=>((yI x v 40).getD m p).snd
 let c2:=fun(x:List jA) (v:Nat)=>(d7 x v).snd
 let d8:=fun(x:List jA) (v:Nat)=>(c2 x v).fst.length
 let d9:=fun(x:Int) (v:Bool) (m:Nat)=>(c1 x v m).snd.fst
 let M:=(aF IntKind.i64).qW
 let e0:=fun(x:List jA) (v:Int) (m:Bool)=>o x=(yI v m 40).length/\ ∀(i:Nat),i<o x->((L x i).length=(R v m i).length/\ ∀(i_1:Nat),i_1
  <(L x i).length->((L x i).getD i_1 u).fst=((R v m i).getD i_1 u).fst/\(T x i i_1).fst=(c0 v m i i_1).fst/\(T x i i_1).snd.fst=(c0 v m i i_1).snd.fst/\
  (d5 x i i_1).fst=(d6 v m i i_1).fst/\(d5 x i i_1).snd=(d6 v m i i_1).snd/\True)/\(d7 x i).fst=(c1 v m i).fst/\(d8 x i=(d9 v m i).length/\ ∀(i_1:Nat),
  i_1<d8 x i->(c2 x i).fst.getD i_1 M=(d9 v m i).getD i_1 M/\True)/\(c2 x i).snd=(c1 v m i).snd.snd/\True
 let w:=fun(x:List jA)=>o x+1
 let y:=fun(x:Int)=>W (x+1)
 let z:=fun(x:Nat) (v:List jA)=>decide (x<o v)
 let e1:=fun(x v:Int) (m:Bool)=>P::f::P::f::I (tB x m v)::B
 let E:=fun(v:List jA) (m s x1 y1:Int) (u1:Bool)=>ah K (w v) fun j=>af (z j v) (K.enc (v.getD j p)) ((SV.aI 5 (fF (r m s x1 y1 u1)) fun x
  =>e1 x1 s u1)::SV.int IntKind.u64 (pf (r m s x1 y1 u1))::SV.aq::c7::B)
 let e2:=([]:List (Option (Nat×Nat)))
 let e3:=fun(x:List jA) (v:Nat)=>(x.getD v p).fst
 let e4:=fun(x:Nat) (v:List jA) (m s x1 y1:Int) (u1:Bool)=>if z x v=true then(e3 v x).length else fF (r m s x1 y1 u1)
 let e5:=fun(x:List jA) (v m s x1:Int) (y1:Bool) (u1:Nat)=>((E x v m s x1 y1).getD u1 p).fst
 let e6:=fun(x:List jA) (v:Nat)=>(x.getD v p).snd
 let N:=fun(x:List jA) (v m s x1:Int) (y1:Bool) (u1:Nat)=>((E x v m s x1 y1).getD u1 p).snd
 let c3:=fun(x:List jA) (v:Nat)=>(e6 x v).snd
 let e7:=fun(x:Nat) (v:List jA)=>if z x v=true then(c3 v x).fst.length else 0
 ab 3 ((w6 v aw 0 []/\ab 2 (c5/\ab 6 ((A/\A)/\d/\c6))/\G m=G m/\O m/\H tk v aw=H tk v aw/\(tk=tk+0/\(q/\ ∀(i:Nat),k i->D/\d/\d/\ -1000
  =wR v aw 0/\d/\v=tB v aw 0/\h)/\d1 aw)/\J=J/\d2/\A/\Q=Q/\True)/\ ∀(i:Int) (l:List jA),w6 v aw i l->True/\(decide (i<40)=true->
  (0<=i/\i<40)/\ab 3 (((O m/\(tk+i=tk+i/\(q/\ ∀(i_1:Nat),k i_1->D/\d/\d/\sm (wR v aw i)/\d/\sm (tB v aw i)/\h)/\ab 2 ((q/\ ∀(i:Nat),
  k i->aw=rdB (SV.bool aw)/\True)/\h))/\c4/\True)/\D7 (r tk i v m aw))/\ru true/\True/\(false=true->ab 2 (d3 l/\True/\(d4 tk i v aw/\e0 l v aw
  /\False/\True)/\True))/\(false=false->True/\1<=1/\(∀(j:Nat),k j->true=true)/\(A/\o l=o l/\w l<=140737488355328/\w l*64<=140737488355328)
  /\ab 2 (w6 v aw (y i) (E l tk i v m aw)/\(40-y i).toNat<(40-i).toNat/\ab 2 (c5/\ab 6 ((A/\w l=(E l tk i v m aw).length)/\sm (y i)/\c6))/\G m
  =G m/\O m/\H tk v aw=H tk v aw/\(tk+i+1=tk+y i/\(q/\ ∀(i_1:Nat),k i_1->D/\d/\d/\xN (r tk i v m aw)=wR v aw (y i)/\d/\vN (r tk i v m aw)
  =tB v aw (y i)/\h)/\ab 2 ((q/\ ∀(i_1:Nat),k i_1->uH (r tk i v m aw)=aw/\True)/\h))/\J=J/\d2/\e2=e2/\((w l=(E l tk i v m aw).length/\4=
  Q/\ ∀(i_1:Nat),i_1<w l->(e4 i_1 l tk i v m aw=(e5 l tk i v m aw i_1).length/\ ∀(i_2:Nat),i_2<e4 i_1 l tk i v m aw->bK (if z i_1 l=true then xf.enc
  ((e3 l i_1).getD i_2 u)else e1 v i aw) (xf.enc ((e5 l tk i v m aw i_1).getD i_2 u)))/\(if z i_1 l=true then(e6 l i_1).fst else pf (r tk i v m aw))=(N l
  tk i v m aw i_1).fst/\(e7 i_1 l=(N l tk i v m aw i_1).snd.fst.length/\ ∀(i_2:Nat),i_2<e7 i_1 l->(c3 l i_1).fst.getD i_2 M=(N l tk i v m aw i_1).snd.fst.getD
  i_2 M/\True)/\(if z i_1 l=true then(c3 l i_1).snd else 0)=(N l tk i v m aw i_1).snd.snd/\True)/\True)/\True))))/\(decide (i<40)=false->ab 2 (d3
  l/\True/\(d4 tk i v aw/\e0 l v aw/\True/\True)/\True))))=vc12 tk v m aw:=by kernel_rfl
theorem k17 :aH Tryz.prog T17:=⟨Wu.x,trivial⟩
theorem IS {v:Int} (h1:60<=v) (h2:v<=559):1<=900/v/\900/v<=15:=by
 have a1:=Int.ediv_mul_le 900 (show v≠0 by omega);have a2:=Zi 900 (show 0<v by omega);generalize 900/v=n at*
 constructor
 . rcases Qe n 1 with h|h
   . have:(n+1)*v<=1*v:=Jh (by omega) (by omega);omega
   . exact h
 . rcases Qe 15 n with h|h
   . have:16*60<=n*v:=Qb (by omega) h1 (by omega) (by omega);omega
   . exact h
theorem m6 (a:AD):eD a=(!a.aw&&decide (0<a.v)&&decide (a.x<= -100)&&decide (-100<a.x+a.v)):=rfl
theorem sF {a:AD} (h:eD a=false):xN a=a.x+a.v/\vN a=a.v/\uH a=(a.aw&&decide (a.c=0))/\fF a=0:=by
 unfold xN vN uH fF;rw [h];exact⟨rfl,rfl,rfl,rfl⟩
theorem F9 {a:AD} (h:eD a=true):xN a=a.x-a.v/2/\vN a= -(a.v/2)/\uH a=decide (a.m<=a.v)/\fF a=1:=by
 unfold xN vN uH fF;rw [h];exact⟨rfl,rfl,rfl,rfl⟩
def atR (tk v m:Int) (aw:Bool) (i:Int):AD:=⟨tk+i,wR v aw i,tB v aw i,m,true,aw,0⟩
theorem FV (v i:Int):wR v true i= -1000+i*v:=by unfold wR;rfl
theorem B6 (v i:Int):tB v true i=v:=by unfold tB;rfl
theorem qK {v i:Int} (h:i<=900/v):wR v false i= -1000+i*v:=by unfold wR;rw [if_neg (by decide),if_pos h]
theorem ll {v i:Int} (h:i<=900/v):tB v false i=v:=by unfold tB;rw [if_neg (by decide),if_pos h]
theorem uX {v i:Int} (h: ¬i<=900/v):wR v false i=xh v-(i-900/v)*(v/2):=by unfold wR;rw [if_neg (by decide),if_neg h]
theorem om {v i:Int} (h: ¬i<=900/v):tB v false i= -(v/2):=by unfold tB;rw [if_neg (by decide),if_neg h]
theorem run_step {tk v m i:Int} {aw:Bool} (hp:ue tk v m aw) (h0:0<=i) (hi:i<40):D7 (atR tk v m aw i)/\xN (atR tk v m aw i)=wR v aw (i+1)/\vN (atR tk v m aw i)=tB v aw (i+1)/\uH (atR tk v m aw i)=aw/\
 (List.replicate (fF (atR tk v m aw i)) (1,0,1,0,tB v aw i),pf (atR tk v m aw i),[],0)=Fv v aw i:=by
 unfold ue at hp;obtain⟨t0,t1,h1,h2,h3,h4,hb⟩:=hp;obtain⟨n1,n2⟩:=IS h1 h2;obtain⟨x1,x2,x3⟩:=Gy h1;have e1:(i+1)*v=i*v+v:=by rw [Qo,K8]
 cases aw with
 |true=>
  have b1:i*v<=40*559:=Qb (by omega) h2 (by omega) (by omega);have b0:0<=i*v:=Ja h0 (by omega);have hh:eD (atR tk v m true i)=false:=rfl;obtain⟨s1,s2,s3,s4⟩:=sF hh;have hcl:pf (atR tk v m true i)=512:=by unfold pf;rw [s3];rfl
  refine⟨?_,?_,?_,?_,?_⟩
  . unfold D7 atR;dsimp only;rw [FV,B6];exact⟨by omega,by omega,h3,h4, .inr (.inr ⟨rfl,h1,h2,rfl, .inl ⟨rfl,by omega,by omega⟩⟩)⟩
  . rw [s1,FV];unfold atR;dsimp only;rw [FV,B6,e1];omega
  . rw [s2,B6];unfold atR;dsimp only;rw [B6]
  . rw [s3];rfl
  . rw [s4,hcl];unfold Fv;simp
 |false=>
  have hm: ¬m<=v:=of_decide_eq_false hb.symm;have hx:xh v= -1000+900/v*v:=by unfold xh;rfl
  by_cases hl:i<=900/v
  . have c1:i*v<=900/v*v:=Jh hl (by omega);have c0:0<=i*v:=Ja h0 (by omega)
    by_cases he:i=900/v
    . subst he;have hh:eD (atR tk v m false (900/v))=true:=by
       rw [m6];unfold atR;dsimp only;rw [qK (by omega),ll (by omega)];simp;omega
      obtain⟨s1,s2,s3,s4⟩:=F9 hh;have s3':uH (atR tk v m false (900/v))=false:=by
       rw [s3];unfold atR;dsimp only;rw [ll (by omega)];exact decide_eq_false hm
      have hcl:pf (atR tk v m false (900/v))=0:=by unfold pf;rw [s3'];rfl
      refine⟨?_,?_,?_,s3',?_⟩
      . unfold D7 atR;dsimp only;rw [qK (by omega),ll (by omega)];exact⟨by omega,by omega,h3,h4, .inl ⟨rfl,h1,h2,rfl, .inr ⟨rfl, .inr hx.symm⟩⟩⟩
      . rw [s1,uX (by omega)];unfold atR;dsimp only;rw [qK (by omega),ll (by omega)];rw [show 900/v+1-900/v=1 by omega,K8];omega
      . rw [s2,om (by omega)];unfold atR;dsimp only;rw [ll (by omega)]
      . rw [s4,hcl,ll (by omega)];unfold Fv;simp
    . have c2:(i+1)*v<=900/v*v:=Jh (by omega) (by omega);have hh:eD (atR tk v m false i)=false:=by
       rw [m6];unfold atR;dsimp only;rw [qK hl,ll hl];simp;omega
      obtain⟨s1,s2,s3,s4⟩:=sF hh;have hcl:pf (atR tk v m false i)=0:=by unfold pf;rw [s3];rfl
      refine⟨?_,?_,?_,by rw [s3];rfl,?_⟩
      . unfold D7 atR;dsimp only;rw [qK hl,ll hl];exact⟨by omega,by omega,h3,h4, .inl ⟨rfl,h1,h2,rfl, .inr ⟨rfl, .inl ⟨by omega,by omega⟩⟩⟩⟩
      . rw [s1,qK (by omega)];unfold atR;dsimp only;rw [qK hl,ll hl,e1];omega
      . rw [s2,ll (by omega)];unfold atR;dsimp only;rw [ll hl]
      . rw [s4,hcl];unfold Fv;rw [if_neg (by rintro⟨_,h⟩;exact he h)];rfl
  . have hv1:30<=v/2:=by omega
    have hv2:v/2<=279:=by omega
    have d1:(i-900/v)*(v/2)<=40*279:=Qb (by omega) hv2 (by omega) (by omega);have d0:1*30<=(i-900/v)*(v/2):=Qb (by omega) hv1 (by omega) (by omega);have e2:(i+1-900/v)*(v/2)=(i-900/v)*(v/2)+v/2:=by rw [show i+1-900/v=(i-900/v)+1 by omega,Qo,K8]
    have hh:eD (atR tk v m false i)=false:=by
     rw [m6];unfold atR;dsimp only;rw [uX hl,om hl];simp;omega
    obtain⟨s1,s2,s3,s4⟩:=sF hh;have hcl:pf (atR tk v m false i)=0:=by unfold pf;rw [s3];rfl
    refine⟨?_,?_,?_,by rw [s3];rfl,?_⟩
    . unfold D7 atR;dsimp only;rw [uX hl,om hl];exact⟨by omega,by omega,h3,h4, .inr (.inl ⟨rfl,by omega,by omega,by omega,by omega,rfl, .inl rfl⟩)⟩
    . rw [s1,uX (by omega)];unfold atR;dsimp only;rw [uX hl,om hl,e2];omega
    . rw [s2,om (by omega)];unfold atR;dsimp only;rw [om hl]
    . rw [s4,hcl];unfold Fv;rw [if_neg (by rintro⟨_,h⟩;omega)];rfl
theorem E2 {v i:Int} {aw:Bool}:(yI v aw i).length=i.toNat:=by unfold yI;simp
theorem ruL_succ {v i:Int} {aw:Bool} (h:0<=i):yI v aw (i+1)=yI v aw i++[Fv v aw i]:=by
 unfold yI;rw [show(i+1).toNat=i.toNat+1 by omega,Q7,Qx];simp only [J8,Z2];rw [show((i.toNat:Nat):Int)=i by omega]
theorem decO (n:Nat) (V cl:Int):Dh.dec [SV.aI 5 n fun x=>[I 1,I 0,I 1,I 0,I V],SV.int IntKind.u64 cl,SV.aq,SV.int IntKind.i64 0]=some (List.replicate n (1,0,1,0,V),cl,[],0):=by
 have h1:mv.dec [SV.aI 5 n fun x=>[I 1,I 0,I 1,I 0,I V]]=some (List.replicate n (1,0,1,0,V)):=by
  show some (ah xf n fun x=>[I 1,I 0,I 1,I 0,I V])=_
  rw [kj (l:=List.replicate n (1,0,1,0,V)) (by simp) fun i hi=>by
   rw [J0,Xh,if_pos hi];exact xf.self (1,0,1,0,V)]
 show oB (mv.dec [SV.aI 5 n fun x=>[I 1,I 0,I 1,I 0,I V]]) (fun a=>oB (rI .u64 (SV.int .u64 cl)) fun b=>oB (oR.dec [SV.aq]) fun c=>oB (rI .i64 (SV.int .i64 0)) fun d=>some (a,b,c,d))=_
 rw [h1];rfl
theorem pushO (l:List jA) (n:Nat) (V cl:Int):(ah Dh (l.length+1) fun j=>af (decide (j<l.length)) (Dh.enc (l.getD j ([],0,[],0))) [SV.aI 5 n fun x=>[I 1,I 0,I 1,I 0,I V],SV.int IntKind.u64 cl,SV.aq,SV.int IntKind.i64 0])=l++[(List.replicate n (1,0,1,0,V),cl,[],0)]:=vQ (C:=Dh) (decO n V cl)
theorem k12 :aH Tryz.prog T12:=av k17 hm Tryz.func12 (by kernel_rfl) (by kernel_rfl) sgRun.ok (by kernel_rfl) (fun a=>a12 a.1 a.2.1 a.2.2.1 a.2.2.2) fun a hp=>by
 have h:vc12 a.1 a.2.1 a.2.2.1 a.2.2.2:=by
  rw [<-vc12_eq];simp only [aA];obtain⟨tk,v,m,aw⟩:=a
  try dsimp only at hp
  simp [-List.getD_eq_getElem?_getD];have hp':=hp;unfold ue at hp';refine⟨⟨?_,?_,?_⟩,fun i l hinv=>⟨fun hi=> ?_,fun hi=> ?_⟩⟩
  . unfold w6 yI;simp
  . cases aw
    . rw [qK (by have:=IS hp'.2.2.1 hp'.2.2.2.1;omega)];omega
    . rw [FV];omega
  . cases aw
    . rw [ll (by have:=IS hp'.2.2.1 hp'.2.2.2.1;omega)]
    . rw [B6]
  . unfold w6 at hinv;obtain⟨g1,g2,rfl⟩:=hinv;obtain⟨r1,r2,r3,r4,r5⟩:=run_step hp g1 hi;have hb:rdB (SV.bool aw)=aw:=rfl;have ha:({tk:=tk+i,x:=wR v aw i,v:=tB v aw i,m:=m,e:=true,aw:=aw,c:=0}:AD)=atR tk v m aw i:=rfl;rw [aG (n:=i+1) (by omega) (by omega)];simp only [hb,ha];rw [pushO,r5,r2,r3,r4];have hlen:=E2 (v:=v) (i:=i) (aw:=aw);refine⟨⟨g1,hi⟩,⟨trivial,r1⟩,⟨by omega,by omega⟩,?_,by omega,⟨by omega,⟨rfl,rfl⟩,rfl⟩,fun j hj=> ?_⟩
    . unfold w6;exact⟨by omega,by omega,(ruL_succ g1).symm⟩
    . have hself: ∀x:H5,bK (xf.enc x) (xf.enc x):=fun x=>xf.ok _ _ (xf.self x) trivial
      by_cases hj2:j<(yI v aw i).length
      . rw [show(yI v aw i++[Fv v aw i]).getD j ([],0,[],0)=(yI v aw i).getD j ([],0,[],0) by
         rw [J0,J0,Ka hj2]]
        simp only [if_pos hj2];exact⟨⟨trivial,fun k _=>hself _⟩,trivial,⟨trivial,fun _ _=>trivial⟩,trivial⟩
      . have hj3:j=(yI v aw i).length:=by omega
        rw [show(yI v aw i++[Fv v aw i]).getD j ([],0,[],0)=Fv v aw i by
         rw [J0,Jy (by omega),hj3];simp]
        rw [<-r5];simp only [if_neg hj2];refine⟨⟨by simp,fun k hk=> ?_⟩,trivial,⟨by simp,fun _ hk=>by omega⟩,trivial⟩;rw [J0,Xh,if_pos hk];exact hself (1,0,1,0,tB v aw i)
  . unfold w6 at hinv;obtain⟨g1,g2,rfl⟩:=hinv;have:i=40:=by omega
    subst this;simp
 exact h
end Go.Proofs.Big
