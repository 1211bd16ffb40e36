import Derived.Test.YtpjiopgakifhaaaGreatRA
import Derived.Test.YtpjiopgakifhaaaGreatRY
set_option linter.unusedSectionVars false
set_option linter.unusedSimpArgs false
set_option linter.unusedVariables false
set_option maxRecDepth 100000
namespace Go.Proofs.Big
open Go Go.Sx Go.Proofs Go.RowKit Go.Proofs.Top Tryz
section
variable {tk a w h e : Int} (k : OkS a w h e)
include k
theorem none_ok{s V:SV}{v:Int}{i b:Nat}(r:letI:=eN tk a w h e;cF (XH [] (fFar s V i)) 2000 141 f141 (Dl s V gN) qR=true)(u:letI:=eN tk a w h e;cF (XH [] (fNo s V i b)) 2000 141 f141 (Dl s V gN) qR=true)
 (m: @Fact (eN tk a w h e) prog 28 [w5,s] (I 0)) (o:letI:=eN tk a w h e;iF 14 V=.int .i64 v) (x:letI:=eN tk a w h e;DC (aF .i64) 13 [V] v) (B:Bnd a v h) (c:∀j,j<7-> @bW.tag (eN tk a w h e) (b+j)=pV (tq a v h j))
 (p: @bW.val (eN tk a w h e) i=loE a v (-h)) (q: @bW.val (eN tk a w h e) (i+1)=hiE a v (-h)) (d:100<=a+v-h): @Fact (eN tk a w h e) prog 141 (Dl s V gN) qR:=by
 letI:=eN tk a w h e
 have y:=k.a0;have z:=k.a1
 by_cases A:101<=a/\101<=a+v-h
 . exact au (ui yf.nil (.cons m (.cons (ext_ok k o B.w0 B.w1 p q (by omega) (by omega)) .nil))) hm (by kernel_rfl) r
 . exact au (ui yf.nil (.cons m (.cons (ext_ok k o B.w0 B.w1 p q (by omega) (by omega)) (.cons (fact_no B (c 3 (by omega)) (c 6 (by omega)) d) (facts_p B Sz x Sz c))))) hm (by kernel_rfl) u
theorem aaL{s V:SV}{v:Int}{i b:Nat}(m:letI:=eN tk a w h e;cF (XH [] (fCon s V i b)) 2000 141 f141 (Dl s V gN) (aaB b)=true)
 (o: @Fact (eN tk a w h e) prog 28 [w5,s] (I 0)) (p:letI:=eN tk a w h e;iF 14 V=.int .i64 v) (q:letI:=eN tk a w h e;DC (aF .i64) 13 [V] v) (B:Bnd a v h) (r:∀j,j<7-> @bW.tag (eN tk a w h e) (b+j)=pV (tq a v h j))
 (u: @bW.val (eN tk a w h e) i=loE a v (-h)) (x: @bW.val (eN tk a w h e) (i+1)=hiE a v (-h)) (y:a+v-h<=99)
 (z:letI:=eN tk a w h e;Fact prog 167 [w3S b] (rtR b)): @Fact (eN tk a w h e) prog 141 (Dl s V gN) (aaB b):=by
 letI:=eN tk a w h e
 have D:=k.a0;have E:=k.a1;obtain⟨A,C,b3,b4,c,d⟩:=B;exact au (ui yf.nil (.cons o (.cons (ext_ok k p c d u x (by omega) (by omega)) (.cons z (facts_p ⟨A,C,b3,b4,c,d⟩ Sz q Sz r))))) hm (by kernel_rfl) m
theorem aaR{s:SV}(m:letI:=eN tk a w h e;cF (XH [(y100,1,1000)] [Cm s]) 2000 141 f141 (Dl s (I 0) (I 0)) qR=true)(o:letI:=eN tk a w h e;cF (XH [(y100,0,0)] (fSt s)) 2000 141 f141 (Dl s (I 0) (I 0)) qR=true)
 (b: @Fact (eN tk a w h e) prog 28 [w5,s] (I 0)): @Fact (eN tk a w h e) prog 141 (Dl s (I 0) (I 0)) qR:=by
 letI:=eN tk a w h e
 have q:=k.a0;have r:=k.a1;rcases(show a=100\/101<=a by omega)with c|c
 . subst c;refine au (ui (Wp (show 0<=(100:Int)-100/\(100:Int)-100<=0 by omega) yf.nil) (.cons b (.cons ?_ .nil))) hm (by kernel_rfl) o;refine DE (a:=[100,0,0]) k230.1 (yk rfl rfl λi p=>?_) ?_ rfl ?_
   . rcases(show i=0\/i=1\/i=2 by omega)with rfl|rfl|rfl
     . exact Sz
     . exact FQ
     . exact FQ
   . unfold lR;refine⟨by simp,λz d=>?_⟩;simp at d;rcases d with rfl|rfl<;>(unfold fN;omega)
   . have e1:ae ([100,0,0]:Ω)=[100]:=by rw[dq];kernel_rfl
     show oZ (pS (ae [100,0,0])) (kp 100)
     rw[e1];refine aa3 (es:=2) (n:=1) λi p=>?_
     have:i=0:=by omega
     subst this;refine⟨w_bz (by show(0:Int)<=100;omega),?_,trivial⟩;show oZ (Av (aF .u32) (dz 100)) (kd 100)
     rw[aav (by omega) (by omega)];exact aa3 (es:=1) (n:=1) λj u=>by
      have:j=0:=by omega
      subst this;exact⟨oZ.refl _,trivial⟩
 . exact au (ui (Wp (show 1<=a-100/\a-100<=1000 by omega) yf.nil) (.cons b .nil)) hm (by kernel_rfl) m
omit k in
theorem tags0:∀j,j<7-> @bW.tag (eN tk a w h e) (0+j)=pV (tq a w h j):=λj b=>by
 rcases(show j=0\/j=1\/j=2\/j=3\/j=4\/j=5\/j=6 by omega)with rfl|rfl|rfl|rfl|rfl|rfl|rfl<;>rfl
omit k in
theorem tags30:∀j,j<7-> @bW.tag (eN tk a w h e) (30+j)=pV (tq a (lJ w e) h j):=λj b=>by
 rcases(show j=0\/j=1\/j=2\/j=3\/j=4\/j=5\/j=6 by omega)with rfl|rfl|rfl|rfl|rfl|rfl|rfl<;>rfl
theorem rt0(c:a+w-h<=99): @A8 (eN tk a w h e) prog ((167,[w3S 0],rtR 0)::fRt 0):=by
 letI:=eN tk a w h e
 exact facts_rt (b:=0) (o:=0) k.bnd rfl rfl c rfl rfl rfl rfl rfl rfl rfl
theorem rt30(d:w<=0)(c:a+lJ w e-h<=99): @A8 (eN tk a w h e) prog ((167,[w3S 30],rtR 30)::fRt 30):=by
 letI:=eN tk a w h e
 exact facts_rt (b:=30) (o:=30) (k.bnd2 d) rfl rfl c rfl rfl rfl rfl rfl rfl rfl
theorem up0(b:a+w-h<=99):25600<=a*256+kX (rq a w h)*16*w+kX (rq a w h)*kX (rq a w h)* -h/\a*256+kX (rq a w h)*16*w+kX (rq a w h)*kX (rq a w h)* -h<=400000:=by
 letI:=eN 0 a w h e
 obtain⟨_,_,G⟩:=fir_hit k.bnd b;have G:GoodR a w h (rq a w h):=G;have u:=G.up;have c:=G.s0;have d:=G.s1;have i:=k.a1;have m:=k.h1;generalize kX (rq a w h)=j at*
 have e1:j*16*w=16*(j*w):=by grind
 have e2:j*j* -h= -(j*j*h):=by grind
 have o:0<=j*j*h:=Ja (Ja c c) (by omega);have p:(j*w).natAbs<=15*400:=by rw[JO];have:=k.w0;have:=k.w1;exact JT (by omega) (by omega)
 omega
theorem up8(c:w<=0)(b:a+lJ w e-h<=99):25600<=a*256+kX (rq a (lJ w e) h)*16*lJ w e+kX (rq a (lJ w e) h)*kX (rq a (lJ w e) h)* -h/\a*256+kX (rq a (lJ w e) h)*16*lJ w e+kX (rq a (lJ w e) h)*kX (rq a (lJ w e) h)* -h<=400000:=by
 letI:=eN 0 a w h e
 obtain⟨_,_,G⟩:=fir_hit (k.bnd2 c) b;have G:GoodR a (lJ w e) h (rq a (lJ w e) h):=G;obtain⟨i,m⟩:=k.lJ c;have u:=G.up;have d:=G.s0;have o:=G.s1;have p:=k.a1;have q:=k.h1;generalize kX (rq a (lJ w e) h)=j at*
 generalize lJ w e=v at*
 have e1:j*16*v=16*(j*v):=by grind
 have e2:j*j* -h= -(j*j*h):=by grind
 have r:0<=j*j*h:=Ja (Ja d d) (by omega);have x:(j*v).natAbs<=15*400:=by rw[JO];exact JT (by omega) (by omega)
 omega
theorem dkA(b:100<=a+w-h)(d:a+w-h<=1100): @An (eN tk a w h e) (@XH (eN tk a w h e) hA gA):=by
 letI:=eN tk a w h e
 have c:=oq (tk:=tk) k (s:=stA) vmA;refine ui (Wp (show 100<=a+w+ -h/\a+w+ -h<=1100 by omega)<|Wp (show 0<=w*w+ -h*(w+ -h)*4-(w+ -h*2)*(w+ -h*2)/\w*w+ -h*(w+ -h)*4-(w+ -h*2)*(w+ -h*2)<=0 from ?_) yf.nil) (.cons c<|.cons (aao k)<|.cons (none_ok k cA0 cA1 c rfl Sz k.bnd tags0 rfl rfl b) .nil);have:w*w+ -h*(w+ -h)*4-(w+ -h*2)*(w+ -h*2)=0:=by grind
 omega
end
section
variable {tk a h e : Int} (k : OkS a 0 h e)
include k
theorem dkI(c:100<=a-h): @An (eN tk a 0 h e) (@XH (eN tk a 0 h e) hI gI):=by
 letI:=eN tk a 0 h e
 have b:=oq (tk:=tk) k (s:=stI) vmI;have d:=k.a1;have i:=k.h1;refine ui (Wp (show 100<=a+ -h/\a+ -h<=1100 by omega)<|Wp (show 0<= -h* -h*4-(-h*2)*(-h*2)/\ -h* -h*4-(-h*2)*(-h*2)<=0 from ?_) yf.nil) (.cons b<|.cons (aao k)<|.cons (none_ok k cI0 cI1 b rfl FQ k.bnd tags0 rfl rfl (by omega)) .nil);have: -h* -h*4-(-h*2)*(-h*2)=0:=by grind
 omega
theorem dkE(c:a-h<=99): @An (eN tk a 0 h e) (@XH (eN tk a 0 h e) [] (gE stZ)):=by
 letI:=eN tk a 0 h e
 have b:=oq (tk:=tk) k (s:=stZ) vmZ
 match rt0 (tk:=tk) k (by omega)with
 |.cons d rr=>exact ui yf.nil (.cons b<|.cons (aao k)<|.cons (aaL k kZ b rfl FQ k.bnd tags0 rfl rfl (by omega) d)<|.cons (aaR k sZ0 sZ1 b)<|.cons (lif_ok k) rr)
theorem dkE0(c:a-h<=99): @An (eN tk a 0 h e) (@XH (eN tk a 0 h e) [] (gE stI)):=by
 letI:=eN tk a 0 h e
 have b:=oq (tk:=tk) k (s:=stI) vmI
 match rt0 (tk:=tk) k (by omega)with
 |.cons d rr=>exact ui yf.nil (.cons b<|.cons (aao k)<|.cons (aaL k kI b rfl FQ k.bnd tags0 rfl rfl (by omega) d)<|.cons (aaR k sI0 sI1 b)<|.cons (lif_ok k) rr)
end
section
variable {tk a w h e : Int} (k : OkS a w h e) (hw : w <= -1) (hit : a + w - h <= 99)
include k hw hit
theorem dkB(b:100<=a+lJ w e-h)(m:a+lJ w e-h<=1100): @An (eN tk a w h e) (@XH (eN tk a w h e) hB gB):=by
 letI:=eN tk a w h e
 have c:=oq (tk:=tk) k (s:=Rh) vmN;obtain⟨d,i⟩:=k.lJ (by omega);have u0:=up0 k hit
 match rt0 (tk:=tk) k hit with
 |.cons j rr=>
  refine ui (Wp u0<|Wp (show 100<=a+lJ w e+ -h/\a+lJ w e+ -h<=1100 by omega)<|Wp (show 0<=lJ w e*lJ w e+ -h*(lJ w e+ -h)*4-(lJ w e+ -h*2)*(lJ w e+ -h*2)/\lJ w e*lJ w e+ -h*(lJ w e+ -h)*4-(lJ w e+ -h*2)*(lJ w e+ -h*2)<=0 from ?_) yf.nil)
   (.cons c<|.cons (aao k)<|.cons (aaL k kN c rfl Sz k.bnd tags0 rfl rfl hit j)<|.cons (none_ok k cN0 cN1 c rfl Sz (k.bnd2 (by omega)) tags30 rfl rfl b)<|.cons (res_ok k hw (w_y rfl d i))<|.cons (str_ok k hw) rr)
  generalize lJ w e=v;have:v*v+ -h*(v+ -h)*4-(v+ -h*2)*(v+ -h*2)=0:=by grind
  omega
theorem dkC(b:a+lJ w e-h<=99)(i:1<=lJ w e): @An (eN tk a w h e) (@XH (eN tk a w h e) hC gC):=by
 letI:=eN tk a w h e
 have c:=oq (tk:=tk) k (s:=Rh) vmN;obtain⟨r,d⟩:=k.lJ (by omega);have u0:=up0 k hit;have u8:=up8 k (by omega) b;have j:=k.h2;have u:=k.a0;have m: -100000<=lJ w e*lJ w e+ -h*lJ w e*4/\lJ w e*lJ w e+ -h*lJ w e*4<= -1:=by
  generalize lJ w e=v at*
  have x:v*v<=v*(h-1):=Jt (by omega) (by omega);have y:v*(h-1)=v*h-v:=by rw[Qm,Ke]
  have z: -h*v*4= -(4*(v*h)):=by grind
  have A:v*1<=v*h:=Jt k.h1 (by omega);have B:v*h<=200*30:=Qb d j (by have:=k.h1;omega) (by omega);have C:=sq_nn v;omega
 match rt0 (tk:=tk) k hit,rt30 (tk:=tk) k (by omega) b with
 |.cons o rr,.cons p q=>
  exact ui (Wp u0<|Wp u8<|Wp m yf.nil)
   (.cons c<|.cons (aao k)<|.cons (aaL k kN c rfl Sz k.bnd tags0 rfl rfl hit o)<|.cons (aaL k kB c rfl Sz (k.bnd2 (by omega)) tags30 rfl rfl b p)<|.cons (aaR k sN0 sN1 c)<|.cons (res_ok k hw (w_y rfl i d))<|.cons (str_ok k hw)<|.cons (lif_ok k) (rr.app q))
theorem dkD(b:a+lJ w e-h<=99)(d:lJ w e=0): @An (eN tk a w h e) (@XH (eN tk a w h e) hD gD):=by
 letI:=eN tk a w h e
 have c:=oq (tk:=tk) k (s:=Rh) vmN;have u0:=up0 k hit;have i:=k.bnd2 (by omega)
 match rt0 (tk:=tk) k hit,rt30 (tk:=tk) k (by omega) b with
 |.cons j rr,.cons m o=>
  refine ui (Wp u0 yf.nil)
   (.cons c<|.cons (aao k)<|.cons (aaL k kN c rfl Sz k.bnd tags0 rfl rfl hit j)<|.cons (aaL (v:=lJ w e) k kB0 c (by rw[d];rfl) (by rw[d];exact FQ) i tags30 rfl rfl b m)<|.cons (aaR k sN0 sN1 c)<|.cons (res_ok k hw (by rw[d];exact Re))<|.cons (str_ok k hw)<|.cons (lif_ok k) (rr.app o))
end
end Go.Proofs.Big
namespace Go.Proofs.Big
open Go Go.Sx Go.Proofs Go.RowKit Go.Proofs.Top Tryz
structure AD where
 tk : Int
 y : Int
 w : Int
 h : Int
 e : Int
 k : Bool
def kS(k:Bool):SV:=match k with
 |true=>.emp
 |false=>.aq
def vS(h e:Int):SV:=.agg [S (I 100),S (I 1),S (I 0),S (I 0),S (I (-h)),S (I 0),S (I 0),S .aq,S (.bF 13 1 λ_=>[.str [119],I 1,I 0,I (-500),I 0,I 500,I 0,I e,I 0,I 0,I 0,I (-1),I (-1)]),S .aq,S .aq,S .aq,S .aq,S .aq,S .aq,S .aq,S .aq,S .aq]
def Dr(y v:Int):SV:=.bF 7 1 λ_=>[I 1,I 0,I 0,I 0,I y,I 0,I v]
def jx(b y v:Int)(k:Bool):SV:=.agg [S (I b),S (Dr y v),S (kS k),S (kS k),S (.bF 1 1 λ_=>[.bool false]),S (.int .u32 0)]
def z6(a:AD):List SV:=[vS a.h a.e,jx a.tk a.y a.w a.k,.agg [S (.int .u32 0),S (I 0),S (I 0)]]
def fre(a:AD):Bool:=decide (100<=a.y+a.w-a.h)
def bou(a:AD):Bool:=decide (a.w<0)&&decide (100<=a.y+lJ a.w a.e-a.h)
def yN(a:AD):Int:=if fre a=true then a.y+a.w-a.h else if bou a=true then a.y+lJ a.w a.e-a.h else a.y
def vN(a:AD):Int:=if fre a=true then a.w-2*a.h else if bou a=true then lJ a.w a.e-2*a.h else 0
def fF(a:AD):Nat:=if fre a=true then 0 else if a.w<0 then 1 else 0
def hitsP(n:Nat)(v:Int):SV:=.bF 5 n λ_=>[I 1,I 0,I 1,I 0,I v]
def z5(a:AD):SV:=.df [jx (a.tk+1) (yN a) (vN a) true,.agg [S (hitsP (fF a) (-a.w)),S (.int .u64 0),S .aq,S (I 0)],I 0]
def D7(a:AD):Prop:=OkS a.y a.w a.h a.e/\0<=a.tk/\a.tk<=300/\(100<=a.y+a.w-a.h->a.y+a.w-a.h<=1100)/\(a.y+a.w-a.h<=99->a.w<=0/\a.y+lJ a.w a.e-a.h<=1100)/\(a.k=false->a.tk=0/\a.w=0)
section
variable [R0 : bW] {tk a w h e : Int}
theorem gP(b:bW){X:DX}{c o:SV}{d:AD}(k: @An b X)(j:X.P=prog)(m:X.I 17=some f17)(i:cF X 3000 17 f17 [w5,c,FV] o=true)(p:Gb (OB nH) [w5,c,FV] [w5,c,FV]=true)
 (q: @G0 b 14 w5) (r: @G0 b 14 c) (u:oS 14 (@iF b 14 w5)) (x:oS 14 (@iF b 14 c)) (y:oS 14 (@iF b 14 o))
 (z:uP pk eL (z6 d) [@iF b 14 w5, @iF b 14 c, @iF b 14 FV]) (A:Vh pk eL (@iF b 14 o) (z5 d)): @Oc R0 prog 17 (z6 d) (z5 d):=by
 have B: @Fact b prog 17 [w5,c,FV] o:=by
  letI:=b
  have:=au k (by rw[j];exact hm) m i;rw[j]at this;exact this
 have b3: @G0 b 14 FV:=by simp[G0,wK,FV]
 have C:oS 14 (@iF b 14 FV):=by simp[oS,iF,wK,FV,eE]
 exact @ca_of R0 b _ _ _ _ _ B p ⟨@vh b 14 _ q, @vh b 14 _ r, @vh b 14 _ b3,trivial⟩ ⟨oc u,oc x,oc C,trivial⟩ (oc y) z A
theorem bT(k:OkS a w h e): @G0 (eN tk a w h e) 14 w5:=by
 have ev:∀i, @bW.val (eN tk a w h e) i=AS tk a w h e i:=λ_=>rfl
 obtain⟨b,c,_,_,_,_,d,e1⟩:=k;simp[G0,wK,mO,wI,w5,aaI,aY,gN,XE.den,ev,AS];omega
theorem pT:oS 14 (@iF (eN tk a w h e) 14 w5):=by
 simp[oS,iF,wK,mO,wI,w5,aaI,gN,aY,eE]
theorem caA(k:OkS a w h e)(j:0<=tk)(m:tk<=300)(b:100<=a+w-h)(c:a+w-h<=1100):Oc prog 17 (z6 ⟨tk,a,w,h,e,true⟩) (z5 ⟨tk,a,w,h,e,true⟩):=by
 have ev:∀i, @bW.val (eN tk a w h e) i=AS tk a w h e i:=λ_=>rfl
 refine gP (eN tk a w h e) (dkA k b c) rfl (by kernel_rfl) (@tmA (eN tk a w h e)) (by kernel_rfl) (bT k) ?_ pT ?_ ?_ ?_ ?_
 . obtain⟨o,p,q,r,u,x,y,e1⟩:=k;simp[G0,wK,mO,wI,stA,Ec,mw,yR,wF,tkR,aY,XE.den,ev,AS];omega
 . simp[oS,iF,wK,mO,wI,stA,Ec,mw,yR,wF,tkR,aY,eE]
 . simp[oS,iF,wK,mO,wI,mw,oA,NC,tkV,aY,eE]
 . simp[uP,KY,mA,BG,wR,DM,xa,bK,jU,z6,vS,jx,Dr,kS,w5,Ec,mw,FV,aaI,iF,eE,aY,XE.den,gN,wF,yR,tkR,S,I,Y,stA]
   try simp only[ev,AS,JK]
   try omega
 . have d:fre ⟨tk,a,w,h,e,true⟩=true:=by unfold fre;exact JJ b
   simp[Vh,uP,KY,mA,BG,wR,DM,xa,bK,jU,z5,jx,Dr,kS,NC,mw,iF,eE,aY,XE.den,tkV,S,I,hitsP,yN,vN,fF,d,oA,fin1,end1]
   try simp only[ev,AS,JL]
   try omega
theorem caI(k:OkS a 0 h e)(b:100<=a-h):Oc prog 17 (z6 ⟨0,a,0,h,e,false⟩) (z5 ⟨0,a,0,h,e,false⟩):=by
 have ev:∀i, @bW.val (eN 0 a 0 h e) i=AS 0 a 0 h e i:=λ_=>rfl
 refine gP (eN 0 a 0 h e) (dkI k b) rfl (by kernel_rfl) (@tmI (eN 0 a 0 h e)) (by kernel_rfl) (bT k) ?_ pT ?_ ?_ ?_ ?_
 . obtain⟨d,j,m,o,p,q,r,e1⟩:=k;simp[G0,wK,mO,wI,stI,Ec,mw,yR,aY,XE.den,ev,AS];omega
 . simp[oS,iF,wK,mO,wI,stI,Ec,mw,yR,aY,eE]
 . simp[oS,iF,wK,mO,wI,mw,oI,NC,aY,eE]
 . simp[uP,KY,mA,BG,wR,DM,xa,bK,jU,z6,vS,jx,Dr,kS,w5,Ec,mw,FV,aaI,iF,eE,aY,XE.den,gN,yR,S,I,Y,stI]
   try simp only[ev,AS,JK]
   try omega
 . have c:fre ⟨0,a,0,h,e,false⟩=true:=by unfold fre;exact JJ (by show 100<=a+0-h;omega)
   simp[Vh,uP,KY,mA,BG,wR,DM,xa,bK,jU,z5,jx,Dr,kS,NC,mw,iF,eE,aY,XE.den,S,I,hitsP,yN,vN,fF,c,oI,fin0,end0]
   try simp only[ev,AS]
   try omega
theorem caB(k:OkS a w h e)(j:w<= -1)(q:0<=tk)(r:tk<=300)(c:a+w-h<=99)(b:100<=a+lJ w e-h)(m:a+lJ w e-h<=1100):Oc prog 17 (z6 ⟨tk,a,w,h,e,true⟩) (z5 ⟨tk,a,w,h,e,true⟩):=by
 have ev:∀i, @bW.val (eN tk a w h e) i=AS tk a w h e i:=λ_=>rfl
 refine gP (eN tk a w h e) (dkB k j c b m) rfl (by kernel_rfl) (@tmB (eN tk a w h e)) (by kernel_rfl) (bT k) ?_ pT ?_ ?_ ?_ ?_
 . obtain⟨u,x,y,z,A,B,C,e1⟩:=k;simp[G0,wK,mO,wI,Rh,Ec,mw,yR,wN,tkR,aY,XE.den,ev,AS];omega
 . simp[oS,iF,wK,mO,wI,Rh,Ec,mw,yR,wN,tkR,aY,eE]
 . simp[oS,iF,wK,mO,wI,mw,oBn,NC,RM,tkV,aY,eE]
 . simp[uP,KY,mA,BG,wR,DM,xa,bK,jU,z6,vS,jx,Dr,kS,w5,Ec,mw,FV,aaI,iF,eE,aY,XE.den,gN,wN,yR,tkR,S,I,Y,Rh]
   try simp only[ev,AS,JK]
   try omega
 . have o:fre ⟨tk,a,w,h,e,true⟩=false:=by unfold fre;exact JH (by show¬100<=a+w-h;omega)
   have p:bou ⟨tk,a,w,h,e,true⟩=true:=by unfold bou;simp only[J2,JG];exact⟨by omega,b⟩
   have d:w<0:=by omega
   simp[Vh,uP,KY,mA,BG,wR,DM,xa,bK,jU,z5,jx,Dr,kS,NC,mw,iF,eE,aY,XE.den,tkV,S,I,Y,hitsP,RM,yN,vN,fF,o,oBn,fin8,end8,p,d]
   try simp only[ev,AS,JL,JK]
   try omega
theorem caC(k:OkS a w h e)(j:w<= -1)(q:0<=tk)(r:tk<=300)(c:a+w-h<=99)(b:a+lJ w e-h<=99)(m:1<=lJ w e):Oc prog 17 (z6 ⟨tk,a,w,h,e,true⟩) (z5 ⟨tk,a,w,h,e,true⟩):=by
 have ev:∀i, @bW.val (eN tk a w h e) i=AS tk a w h e i:=λ_=>rfl
 refine gP (eN tk a w h e) (dkC k j c b m) rfl (by kernel_rfl) (@tmC (eN tk a w h e)) (by kernel_rfl) (bT k) ?_ pT ?_ ?_ ?_ ?_
 . obtain⟨u,x,y,z,A,B,C,e1⟩:=k;simp[G0,wK,mO,wI,Rh,Ec,mw,yR,wN,tkR,aY,XE.den,ev,AS];omega
 . simp[oS,iF,wK,mO,wI,Rh,Ec,mw,yR,wN,tkR,aY,eE]
 . simp[oS,iF,wK,mO,wI,mw,oC,NC,RM,yR,tkV,aY,eE]
 . simp[uP,KY,mA,BG,wR,DM,xa,bK,jU,z6,vS,jx,Dr,kS,w5,Ec,mw,FV,aaI,iF,eE,aY,XE.den,gN,wN,yR,tkR,S,I,Y,Rh]
   try simp only[ev,AS,JK]
   try omega
 . have o:fre ⟨tk,a,w,h,e,true⟩=false:=by unfold fre;exact JH (by show¬100<=a+w-h;omega)
   have p:bou ⟨tk,a,w,h,e,true⟩=false:=by unfold bou;rw[JH (show¬100<=a+lJ w e-h by omega),Bool.and_false]
   have d:w<0:=by omega
   simp[Vh,uP,KY,mA,BG,wR,DM,xa,bK,jU,z5,jx,Dr,kS,NC,mw,iF,eE,aY,XE.den,yR,tkV,S,I,Y,hitsP,RM,yN,vN,fF,o,oC,p,d]
   try simp only[ev,AS,JK]
   try omega
theorem caD(k:OkS a w h e)(j:w<= -1)(q:0<=tk)(r:tk<=300)(c:a+w-h<=99)(b:a+lJ w e-h<=99)(m:lJ w e=0):Oc prog 17 (z6 ⟨tk,a,w,h,e,true⟩) (z5 ⟨tk,a,w,h,e,true⟩):=by
 have ev:∀i, @bW.val (eN tk a w h e) i=AS tk a w h e i:=λ_=>rfl
 refine gP (eN tk a w h e) (dkD k j c b m) rfl (by kernel_rfl) (@tmD (eN tk a w h e)) (by kernel_rfl) (bT k) ?_ pT ?_ ?_ ?_ ?_
 . obtain⟨u,x,y,z,A,B,C,e1⟩:=k;simp[G0,wK,mO,wI,Rh,Ec,mw,yR,wN,tkR,aY,XE.den,ev,AS];omega
 . simp[oS,iF,wK,mO,wI,Rh,Ec,mw,yR,wN,tkR,aY,eE]
 . simp[oS,iF,wK,mO,wI,mw,oC,NC,RM,yR,tkV,aY,eE]
 . simp[uP,KY,mA,BG,wR,DM,xa,bK,jU,z6,vS,jx,Dr,kS,w5,Ec,mw,FV,aaI,iF,eE,aY,XE.den,gN,wN,yR,tkR,S,I,Y,Rh]
   try simp only[ev,AS,JK]
   try omega
 . have o:fre ⟨tk,a,w,h,e,true⟩=false:=by unfold fre;exact JH (by show¬100<=a+w-h;omega)
   have p:bou ⟨tk,a,w,h,e,true⟩=false:=by unfold bou;rw[JH (show¬100<=a+lJ w e-h by omega),Bool.and_false]
   have d:w<0:=by omega
   simp[Vh,uP,KY,mA,BG,wR,DM,xa,bK,jU,z5,jx,Dr,kS,NC,mw,iF,eE,aY,XE.den,yR,tkV,S,I,Y,hitsP,RM,yN,vN,fF,o,oC,p,d]
   try simp only[ev,AS,JK]
   try omega
theorem caE(k:OkS a 0 h e)(j:0<=tk)(m:tk<=300)(b:a-h<=99):Oc prog 17 (z6 ⟨tk,a,0,h,e,true⟩) (z5 ⟨tk,a,0,h,e,true⟩):=by
 have ev:∀i, @bW.val (eN tk a 0 h e) i=AS tk a 0 h e i:=λ_=>rfl
 refine gP (eN tk a 0 h e) (dkE k b) rfl (by kernel_rfl) (@tmE (eN tk a 0 h e)) (by kernel_rfl) (bT k) ?_ pT ?_ ?_ ?_ ?_
 . obtain⟨o,p,q,r,u,x,y,e1⟩:=k;simp[G0,wK,mO,wI,stZ,Ec,mw,yR,tkR,aY,XE.den,ev,AS];omega
 . simp[oS,iF,wK,mO,wI,stZ,Ec,mw,yR,tkR,aY,eE]
 . simp[oS,iF,wK,mO,wI,mw,oE,NC,yR,tkV,aY,eE]
 . simp[uP,KY,mA,BG,wR,DM,xa,bK,jU,z6,vS,jx,Dr,kS,w5,Ec,mw,FV,aaI,iF,eE,aY,XE.den,gN,yR,tkR,S,I,Y,stZ]
   try simp only[ev,AS,JK]
   try omega
 . have c:fre ⟨tk,a,0,h,e,true⟩=false:=by unfold fre;exact JH (by show¬100<=a+0-h;omega)
   have d:bou ⟨tk,a,0,h,e,true⟩=false:=by unfold bou;rw[JH (show¬(0:Int)<0 by omega),Bool.false_and]
   simp[Vh,uP,KY,mA,BG,wR,DM,xa,bK,jU,z5,jx,Dr,kS,NC,mw,iF,eE,aY,XE.den,yR,tkV,S,I,Y,hitsP,yN,vN,fF,c,oE,d]
   try simp only[ev,AS,JK]
   try omega
theorem caE0(k:OkS a 0 h e)(b:a-h<=99):Oc prog 17 (z6 ⟨0,a,0,h,e,false⟩) (z5 ⟨0,a,0,h,e,false⟩):=by
 have ev:∀i, @bW.val (eN 0 a 0 h e) i=AS 0 a 0 h e i:=λ_=>rfl
 refine gP (eN 0 a 0 h e) (dkE0 k b) rfl (by kernel_rfl) (@tmE0 (eN 0 a 0 h e)) (by kernel_rfl) (bT k) ?_ pT ?_ ?_ ?_ ?_
 . obtain⟨j,m,o,p,q,r,u,e1⟩:=k;simp[G0,wK,mO,wI,stI,Ec,mw,yR,aY,XE.den,ev,AS];omega
 . simp[oS,iF,wK,mO,wI,stI,Ec,mw,yR,aY,eE]
 . simp[oS,iF,wK,mO,wI,mw,oE0,NC,yR,aY,eE]
 . simp[uP,KY,mA,BG,wR,DM,xa,bK,jU,z6,vS,jx,Dr,kS,w5,Ec,mw,FV,aaI,iF,eE,aY,XE.den,gN,yR,S,I,Y,stI]
   try simp only[ev,AS,JK]
   try omega
 . have c:fre ⟨0,a,0,h,e,false⟩=false:=by unfold fre;exact JH (by show¬100<=a+0-h;omega)
   have d:bou ⟨0,a,0,h,e,false⟩=false:=by unfold bou;rw[JH (show¬(0:Int)<0 by omega),Bool.false_and]
   simp[Vh,uP,KY,mA,BG,wR,DM,xa,bK,jU,z5,jx,Dr,kS,NC,mw,iF,eE,aY,XE.den,yR,S,I,Y,hitsP,yN,vN,fF,c,oE0,d]
   try simp only[ev,AS]
   try omega
theorem ca17(d:AD)(o:D7 d):Oc prog 17 (z6 d) (z5 d):=by
 obtain⟨tk,a,w,h,e,kk⟩:=d;obtain⟨k,t0,t1,p,q,j⟩:=o;dsimp only at k t0 t1 p q j;rcases(show 100<=a+w-h\/a+w-h<=99 by omega)with b|b
 . cases kk with
   |false=>
    obtain⟨rfl,rfl⟩:=j rfl;exact caI k (by omega)
   |true=>exact caA k t0 t1 b (p b)
 . obtain⟨i,r⟩:=q b;cases kk with
   |false=>
    obtain⟨rfl,rfl⟩:=j rfl;exact caE0 k (by omega)
   |true=>
    rcases(show w=0\/w<= -1 by omega)with rfl|i
    . exact caE k t0 t1 (by omega)
    . rcases(show 100<=a+lJ w e-h\/a+lJ w e-h<=99 by omega)with c|c
      . exact caB k i t0 t1 b c r
      . obtain⟨u,_⟩:=k.lJ (by omega);rcases(show lJ w e=0\/1<=lJ w e by omega)with m|m
        . exact caD k i t0 t1 b c m
        . exact caC k i t0 t1 b c m
end
def rdK(x:SV):Bool:=match x with
 |.aq=>false
 |_=>true
def rd17:List SV->Option AD:=λl=>match l with
 |[.agg t,.agg s,_]=>match (t[4]?:Option ar),(t[8]?:Option ar),(s[0]?:Option ar),(s[1]?:Option ar),(s[2]?:Option ar)with
  |some (.s (.int _ g)),some (.s (.bF _ _ f)),some (.s (.int _ c)),some (.s (.bF _ _ b)),some (.s k)=>match f 0,b 0 with
   |[_,_,_,_,_,_,_,.int _ e,_,_,_,_,_],[_,_,_,_,.int _ y,_,.int _ v]=>some ⟨c,y,v,-g,e,rdK k⟩
   |_,_=>none
  |_,_,_,_,_=>none
 |_=>none
def c17:bB:=Pz rd17 D7 z6 z5
theorem Wu[bW]:cS prog 17 c17:=fn_of ⟨f17,func17,by kernel_rfl,by kernel_rfl⟩ λa h=>ca17 a h
end Go.Proofs.Big
