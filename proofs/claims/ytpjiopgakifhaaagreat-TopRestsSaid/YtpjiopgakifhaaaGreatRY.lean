import Derived.Test.YtpjiopgakifhaaaGreatRA
import Derived.Test.YtpjiopgakifhaaaGreatRX4
import Derived.Test.YtpjiopgakifhaaaGreatRG
import Derived.Test.YtpjiopgakifhaaaGreatRH0
import Derived.Test.YtpjiopgakifhaaaGreatRH1
import Derived.Test.YtpjiopgakifhaaaGreatRH2
import Derived.Test.YtpjiopgakifhaaaGreatRH3
import Derived.Test.YtpjiopgakifhaaaGreatRH4
set_option linter.unusedSectionVars false
set_option linter.unusedSimpArgs false
set_option linter.unusedVariables false
set_option maxRecDepth 100000
namespace Go.Proofs.Big
open Go Go.Sx Go.Proofs Go.RowKit Go.Proofs.Top Tryz
section
variable [bW]
theorem ca_conv{P:Program}{f:Nat}{args b:List SV}{d c:SV}(h:Oc P f b c)(k:uP pk eL args b)(m:Vh pk eL c d):Oc P f args d:=λR w i o j=>
 (h R w i o (kR (own':=Own.empty) k j)).mono λe x ⟨v,p,q,r,u⟩=>⟨v,p,q,C3 (Kp.none _ _) m r,u⟩
end
theorem ca_of[e:bW](c:bW){f:Nat}{b args:List SV}{o d:SV}(i: @Fact c prog f b o)(j:Gb (OB nH) b b=true)(k: @Ls c 14 b)(m:Od 14 (b.map (@iF c 14)))(h:zf 14 (@iF c 14 o))
 (p:uP pk eL args (b.map (@iF c 14))) (q:Vh pk eL (@iF c 14 o) d): @Oc e prog f args d:=
 @ca_conv e _ _ _ _ _ _ (fact_swap c e 14 i j rfl rfl k m h) p q
def valV(w e:Int)(i:Nat):Int:=match i with
 |1=>w|3=>e|8=>e* -w/16|10=>bl (e* -w/16)|_=>0
def tagV(W E:Int)(i:Nat):SV:=match i with
 |20=>lV (dz (16*W))|21=>lV (dz W)|22=>lV (dz (16+E))|23=>lV (dz ((16+E)*W))|24=>lV (dz (E*W))|25=>lV (dz (Int.gcd (E*W) 16:Int))
 |26=>lV (dz (E*W/(Int.gcd (E*W) 16:Int)))|27=>lV (dz (16/(Int.gcd (E*W) 16:Int)))|28=>lV (dz (E*W/16))|_=>.aq
theorem tagV_row(W E:Int)(i:Nat):LZ (tagV W E i)=true:=by
 unfold tagV;split<;>rfl
@[reducible] def rhoV(w e:Int):bW:=⟨valV w e,tagV (-w) e,tagV_row (-w) e⟩
theorem rsV(w e:Int): @RsR (rhoV w e) (-w) e:=by
 letI:=rhoV w e
 exact⟨rfl,rfl,rfl,rfl,rfl,rfl,rfl,rfl,rfl,by show w= - -w;omega,rfl,rfl,rfl⟩
def arM(a:Int×Int):List SV:=[.bF 10 1 λ_=>[I 0,I (-1),I 0,I 1,I 0,I 0,I 0,I 0,I a.1,I 0],.bF 2 1 λ_=>[I 0,I a.2]]
def anM(a:Int×Int):SV:=.df [.bF 2 1 λ_=>[I 0,I (a.1* -a.2/16)],.tt,I 0]
def okM(a:Int×Int):Prop:=0<=a.1/\a.1<=8/\ -400<=a.2/\a.2<= -1
theorem ca216[m:bW](a:Int×Int)(h:okM a):Oc prog 216 (arM a) (anM a):=by
 obtain⟨e,w⟩:=a;obtain⟨c,b,d,j⟩:=h;dsimp only at c b d j;have ev:∀i, @bW.val (rhoV w e) i=valV w e i:=λ_=>rfl
 rcases(show e=0\/1<=e by omega)with rfl|k
 . refine ca_of (rhoV w 0) (@res_fact0 (rhoV w 0) (-w) (rsV w 0) (by omega) (by omega)) (by kernel_rfl) ⟨@vh (rhoV w 0) 14 _ ?_, @vh (rhoV w 0) 14 _ ?_,trivial⟩ ⟨oc ?_,oc ?_,trivial⟩ (oc ?_) ?_ ?_
   . simp[G0,mO,wI,aY]
   . simp[G0,mO,wI,aY,wN,XE.den,ev,valV];omega
   . simp[oS,iF,mO,wI,aY]
   . simp[oS,iF,mO,wI,aY,wN]
   . simp[oS,iF,mO,wI,aY,aaT]
   . simp[uP,KY,wR,DM,xa,bK,jU,arM,aaF,iF,aY,XE.den,wN,I,Y]
     try simp only[ev,valV]
   . simp[Vh,uP,KY,wR,DM,xa,bK,jU,anM,aaT,iF,aY,I]
 . refine ca_of (rhoV w e) (@res_fact (rhoV w e) (-w) e (rsV w e) (by omega) (by omega) k b) (by kernel_rfl) ⟨@vh (rhoV w e) 14 _ ?_, @vh (rhoV w e) 14 _ ?_,trivial⟩ ⟨oc ?_,oc ?_,trivial⟩ (oc ?_) ?_ ?_
   . simp[G0,mO,wI,aY,XE.den,ev,valV];omega
   . simp[G0,mO,wI,aY,wN,XE.den,ev,valV];omega
   . simp[oS,iF,mO,wI,aY]
   . simp[oS,iF,mO,wI,aY,wN]
   . simp[oS,iF,mO,wI,aY,aaT,vB]
   . simp[uP,KY,wR,DM,xa,bK,jU,arM,aaF,iF,aY,XE.den,wN,I,Y]
     try simp only[ev,valV,JK]
   . simp[Vh,uP,KY,wR,DM,xa,bK,jU,anM,aaT,vB,iF,aY,XE.den,I,Y]
     try simp only[ev,valV]
def DJ:List SV->Option (Int×Int):=λl=>match l with
 |[.bF _ _ f,.bF _ _ g]=>match f 0,g 0 with
  |[_,_,_,_,_,_,_,_,.int _ e,_],[_,.int _ w]=>some (e,w)
  |_,_=>none
 |_=>none
def c216:bB:=Pz DJ okM arM anM
theorem f216_fn[bW]:cS prog 216 c216:=fn_of ⟨f216,func216,by kernel_rfl,by kernel_rfl⟩ λa h=>ca216 a h
def aam(g:Int):List SV:=[.agg [S (I 0),S (I g)],.bF 2 1 (aY 2 [[I 0,I 1]])]
def v00:SV:=.agg [S (I 0),S (I 0)]
def arLf(g:Int):List SV:=[vc2 0 g,.bF 2 1 λ_=>[I 0,I 1]]
theorem lift_0[bW]:((List.range 5).all λk=>cF XW 2000 347 f347 (aam (-((k:Int)+1))) v00)=true:=by kernel_rfl
theorem lift_1[bW]:((List.range 5).all λk=>cF XW 2000 347 f347 (aam (-((k:Int)+6))) v00)=true:=by kernel_rfl
theorem lift_2[bW]:((List.range 5).all λk=>cF XW 2000 347 f347 (aam (-((k:Int)+11))) v00)=true:=by kernel_rfl
theorem lift_3[bW]:((List.range 5).all λk=>cF XW 2000 347 f347 (aam (-((k:Int)+16))) v00)=true:=by kernel_rfl
theorem lift_4[bW]:((List.range 5).all λk=>cF XW 2000 347 f347 (aam (-((k:Int)+21))) v00)=true:=by kernel_rfl
theorem lift_5[bW]:((List.range 5).all λk=>cF XW 2000 347 f347 (aam (-((k:Int)+26))) v00)=true:=by kernel_rfl
theorem self_all[bW]:((List.range 30).all λk=>Gb (OB nH) (aam (-((k:Int)+1))) (aam (-((k:Int)+1))))=true:=by kernel_rfl
theorem part5{P:Int->Bool}{a g:Int}(h:((List.range 5).all λk=>P (-((k:Int)+a)))=true)(b:g<= -a)(c: -a-5<g):P g=true:=by
 have:=Js.1 h (-g-a).toNat (Kn.2 (by omega))
 rwa[show-((((-g-a).toNat:Nat):Int)+a)=g by omega]at this
theorem lift_all[bW]{g:Int}(b: -30<=g)(c:g<= -1):cF XW 2000 347 f347 (aam g) v00=true:=by
 rcases(show-5<=g\/(-10<=g/\g<= -6)\/(-15<=g/\g<= -11)\/(-20<=g/\g<= -16)\/(-25<=g/\g<= -21)\/g<= -26 by omega)with h|h|h|h|h|h
 . exact part5 (P:=λg=>cF XW 2000 347 f347 (aam g) v00) lift_0 (by omega) (by omega)
 . exact part5 (P:=λg=>cF XW 2000 347 f347 (aam g) v00) lift_1 (by omega) (by omega)
 . exact part5 (P:=λg=>cF XW 2000 347 f347 (aam g) v00) lift_2 (by omega) (by omega)
 . exact part5 (P:=λg=>cF XW 2000 347 f347 (aam g) v00) lift_3 (by omega) (by omega)
 . exact part5 (P:=λg=>cF XW 2000 347 f347 (aam g) v00) lift_4 (by omega) (by omega)
 . exact part5 (P:=λg=>cF XW 2000 347 f347 (aam g) v00) lift_5 (by omega) (by omega)
theorem caLift[b:bW]{g:Int}(h: -30<=g/\g<= -1):Oc prog 347 (arLf g) v00:=by
 have c:Fact prog 347 (aam g) v00:=au okW hm (by kernel_rfl) (lift_all h.1 h.2);have d:Gb (OB nH) (aam g) (aam g)=true:=by
  have:=Js.1 self_all (-g-1).toNat (Kn.2 (by omega))
  rwa[show-((((-g-1).toNat:Nat):Int)+1)=g by omega]at this
 refine ca_of b c d ⟨vh ?_,vh ?_,trivial⟩ ⟨oc ?_,oc ?_,trivial⟩ (oc ?_) ?_ ?_
 . simp[G0,wK]
 . simp[G0,mO,wI,aY]
 . simp[oS,iF,wK,eE]
 . simp[oS,iF,mO,wI,aY]
 . simp[oS,iF,wK,eE,v00]
 . simp[uP,KY,mA,BG,wR,DM,xa,bK,jU,arLf,aam,vc2,iF,eE,aY,S,I]
 . simp[Vh,KY,mA,BG,wR,DM,xa,jU,v00,iF,eE,S,I]
def c347:bB:=Pz (λl=>match l with|[.agg (_:: .s (.int _ g)::_),_]=>some g|_=>none) (λg=> -30<=g/\g<= -1) arLf λ_=>v00
theorem f347_fn[bW]:cS prog 347 c347:=fn_of ⟨f347,func347,by kernel_rfl,by kernel_rfl⟩ λ_ h=>caLift h
end Go.Proofs.Big
namespace Go.Proofs.Big
open Go Go.Sx Go.Proofs Go.RowKit Go.Proofs.Top Tryz
def lJ(w e:Int):Int:=e* -w/16
def tagS(a w h e:Int)(i:Nat):SV:=match i with
 |0=>pV (tq a w h 0)|1=>pV (tq a w h 1)|2=>pV (tq a w h 2)|3=>pV (tq a w h 3)|4=>pV (tq a w h 4)|5=>pV (tq a w h 5)|6=>pV (tq a w h 6)
 |7=>pV (rq a w h).1|8=>lV (dz (rq a w h).2.1.1)|9=>lV (dz (rq a w h).2.2.1)|10=>pV (bE (rq a w h).1)
 |30=>pV (tq a (lJ w e) h 0)|31=>pV (tq a (lJ w e) h 1)|32=>pV (tq a (lJ w e) h 2)|33=>pV (tq a (lJ w e) h 3)|34=>pV (tq a (lJ w e) h 4)|35=>pV (tq a (lJ w e) h 5)|36=>pV (tq a (lJ w e) h 6)
 |37=>pV (rq a (lJ w e) h).1|38=>lV (dz (rq a (lJ w e) h).2.1.1)|39=>lV (dz (rq a (lJ w e) h).2.2.1)|40=>pV (bE (rq a (lJ w e) h).1)
 |_=>.aq
theorem tagS_row(a w h e:Int)(i:Nat):LZ (tagS a w h e i)=true:=by
 unfold tagS;split<;>rfl
def AS(b a w h e:Int)(i:Nat):Int:=match i with
 |0=>a|1=>w|2=> -h|3=>e|4=>b|5=>kX (rq a w h)|6=>(rq a w h).2.1.2|7=>(rq a w h).2.2.2|8=>lJ w e|9=> -w
 |11=>loE a w (-h)|12=>hiE a w (-h)|13=>loE a (lJ w e) (-h)|14=>hiE a (lJ w e) (-h)
 |35=>kX (rq a (lJ w e) h)|36=>(rq a (lJ w e) h).2.1.2|37=>(rq a (lJ w e) h).2.2.2|_=>0
@[reducible] def eN(b a w h e:Int):bW:=⟨AS b a w h e,tagS a w h e,tagS_row a w h e⟩
structure OkS (a w h e : Int) : Prop where
 h1 : 1 <= h
 h2 : h <= 30
 a0 : 100 <= a
 a1 : a <= 1100
 w0 : -400 <= w
 w1 : w <= 400
 e0 : 0 <= e
 e1 : e <= 8
theorem OkS.bnd{a w h e:Int}(k:OkS a w h e):Bnd a w h:=⟨k.h1,k.h2,k.a0,by have:=k.a1;omega,k.w0,k.w1⟩
theorem OkS.lJ{a w h e:Int}(k:OkS a w h e)(c:w<=0):0<=lJ w e/\lJ w e<=200:=by
 have d:=k.w0;have b:=k.e0;have e1:=k.e1;have i:0<=e* -w:=Ja b (by omega);have j:e* -w<=8*400:=Qb e1 (by omega) (by omega) (by omega);unfold Big.lJ;omega
theorem OkS.bnd2{a w h e:Int}(k:OkS a w h e)(b:w<=0):Bnd a (Big.lJ w e) h:=by
 obtain⟨c,d⟩:=k.lJ b;exact⟨k.h1,k.h2,k.a0,by have:=k.a1;omega,by omega,by omega⟩
theorem Wp[bW]{e:XE}{c d:Int}{H:HT}(h:c<=e.den/\e.den<=d)(i:yf H):yf ((e,c,d)::H):=by
 intro y b;simp only[Kd]at b;rcases b with rfl|b
 . exact h
 . exact i y b
section
variable {tk a w h e : Int} (k : OkS a w h e)
include k
theorem bel_ok: @Fact (eN tk a w h e) prog belR.1 belR.2.1 belR.2.2:=by
 letI:=eN tk a w h e
 have b:=k.a0;have d:=k.a1;refine nu (c:=c197) k197.1 14 (p:=(True/\True/\True)/\C7 (a*1000) 100 1000000) (r:=.bool (decide (a*1000*(a*1000)<100*100*1000000))) (by rfl) ⟨⟨trivial,trivial,trivial⟩,by unfold C7;omega⟩ rfl ?_;have:100000*100000<=a*1000*(a*1000):=Qb (by omega) (by omega) (by omega) (by omega);rw[JH (by omega)];exact w_b
theorem oq{s:SV}(b:letI:=eN tk a w h e;cF XV 2000 28 f28 [w5,s] (I 0)=true): @Fact (eN tk a w h e) prog 28 [w5,s] (I 0):=by
 letI:=eN tk a w h e
 exact au (ui yf.nil (.cons chk_fact (.cons (bel_ok k) .nil))) hm (by kernel_rfl) b
theorem aao: @Fact (eN tk a w h e) prog aaW.1 aaW.2.1 aaW.2.2:=by
 letI:=eN tk a w h e
 have c:=k.h1;have d:=k.h2;refine nu Fi.IH.x 14 (p:=True) (r:=.agg [.s (.int .i64 (Fi.FZ 0)),.s (.int .i64 (Fi.FZ (-h)))]) (by rfl) trivial rfl ?_;have b:Fi.FZ 0=0:=by unfold Fi.FZ;omega
 have e1:Fi.FZ (-h)= -h:=by unfold Fi.FZ;omega
 rw[b,e1];exact sG (l:=[.int .i64 0,.int .i64 (-h)]) (m:=[I 0,gN]) ⟨Re,w_y rfl (by omega) (by omega),trivial⟩
theorem ext_ok{v:Int}{V:SV}{b j:Int}{i:Nat}(m:letI:=eN tk a w h e;iF 14 V=.int .i64 v)(B: -400<=v)(C:v<=400)(o: @bW.val (eN tk a w h e) i=loE a v (-h))(u: @bW.val (eN tk a w h e) (i+1)=hiE a v (-h))(x:b<=min a (a+v-h))(y:min a (a+v-h)<=j):
 @Fact (eN tk a w h e) prog 297 [yR,V,gN] (.df [Y i b j,Y (i+1) 100 200000]):=by
 letI:=eN tk a w h e
 obtain⟨D,E,F,G,_,_,_,_⟩:=k;have e1:loE a v (-h)=min a (a+v+ -h):=by unfold loE;rfl
 have e2:hiE a v (-h)=if 0<v/\v< -2* -h then max (max a (a+v+ -h)) (a+(v*v-4* -h-1).tdiv (-4* -h))else max a (a+v+ -h):=by unfold hiE;rfl
 refine nu (c:=c297) k297.1 14 (p:=(True/\True/\True)/\pre297 a v (-h)) (r:=.df [iS (loE a v (-h)),iS (hiE a v (-h))]) ?_ ⟨⟨trivial,trivial,trivial⟩,by unfold pre297;omega⟩ rfl (weak_t2 (w_y o.symm (by omega) (by omega)) (w_y u.symm ?_ ?_))
 . have:([yR,V,gN].map (iF 14))=[.int .i64 a,.int .i64 v,.int .i64 (-h)]:=by simp only[J8,Z2,m];rfl
   rw[this];rfl
 . rw[e2];split<;>omega
 . have H:=sq_nn v;have J:(v*v).natAbs<=400*400:=by rw[JO];exact JT (by omega) (by omega)
   rw[e2];generalize v*v=q at*
   have z:0<=(q-4* -h-1).tdiv (-4* -h):=Int.tdiv_nonneg (by omega) (by omega);have A:(q-4* -h-1).tdiv (-4* -h)<=160200:=by
    rw[Ky (by omega)];have:=Z3 (a:=q-4* -h-1) (-4* -h) (by omega);omega
   generalize (q-4* -h-1).tdiv (-4* -h)=d at*
   split<;>omega
theorem str_ok(c:w<= -1): @Fact (eN tk a w h e) prog strF.1 strF.2.1 strF.2.2:=by
 letI:=eN tk a w h e
 have d:=k.w0;have b:c276 (strF.2.1.map (iF 14))=some (uP pk eL (ar270 w) (ar270 w)/\pre276 w,iS (-w)):=by rfl
 refine nu k276.1 14 b ⟨?_,by unfold pre276;omega⟩ rfl (w_y rfl (by omega) (by omega));simp[uP,KY,mA,BG,wR,DM,xa,jU,ar270,vc2]
theorem lif_ok: @Fact (eN tk a w h e) prog lifF.1 lifF.2.1 lifF.2.2:=by
 letI:=eN tk a w h e
 have c:=k.h1;have d:=k.h2;have b:c347 (lifF.2.1.map (iF 14))=some (uP pk eL (lifF.2.1.map (iF 14)) (arLf (-h))/\(-30<= -h/\ -h<= -1),v00):=by rfl
 refine nu f347_fn.x 14 b ⟨?_,by omega,by omega⟩ rfl (oZ.refl _);simp[uP,KY,mA,BG,wR,DM,xa,bK,jU,arLf,lifF,vc2,iF,eE,aY,gN,XE.den,S,I,Y];rfl
theorem res_ok(b:w<= -1){v:SV}(c: @oZ (eN tk a w h e) (.int .i64 (lJ w e)) v): @Fact (eN tk a w h e) prog (resF v).1 (resF v).2.1 (resF v).2.2:=by
 letI:=eN tk a w h e
 obtain⟨_,_,_,_,d,_,j,e1⟩:=k;have o:c216 ((aaF (Y 3 0 8) wN).map (iF 14))=some (uP pk eL ((aaF (Y 3 0 8) wN).map (iF 14)) (arM (e,w))/\okM (e,w),anM (e,w)):=by rfl
 refine nu f216_fn.x 14 o ⟨?_,by unfold okM;exact⟨j,e1,d,b⟩⟩ rfl ?_
 . simp[uP,KY,wR,DM,xa,bK,jU,arM,aaF,iF,aY,wN,XE.den,I,Y];exact⟨rfl,rfl⟩
 . refine sD (l:=[.bF 2 1 λ_=>[I 0,I (e* -w/16)],.tt,I 0]) (m:=[.bF 2 1 (aY 2 [[I 0,v]]),.tt,I 0]) ⟨aa3 λi p=>?_,oZ.refl _,oZ.refl _,trivial⟩;have:i=0:=by omega
   subst this;exact⟨oZ.refl _,c,trivial⟩
end
end Go.Proofs.Big
