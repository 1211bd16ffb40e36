import Derived.Test.YtpjiopgakifhaaaGreatRA
import Derived.Test.YtpjiopgakifhaaaGreatRX4
import Derived.Test.YtpjiopgakifhaaaGreatRX2
import Derived.Test.YtpjiopgakifhaaaGreatRW
set_option linter.unusedSectionVars false
set_option linter.unusedSimpArgs false
set_option linter.unusedVariables false
set_option maxRecDepth 100000
namespace Go.Proofs.Big
open Go Go.Sx Go.Proofs Go.RowKit Go.Proofs.Top Tryz
def pV(p:Ω):SV:=.bF 2 p.length λi=>[SV.bool (decide (p.getD i 0<0)),SV.bF 1 (dz (p.getD i 0)).length λj=>[SV.int .u32 ((dz (p.getD i 0)).getD j 0)]]
def tq(a w h:Int):Nat->Ω
 |0=>ae [a,w,-h]
 |1=>bX (ae [a,w,-h]) (ae [a,w,-h])
 |2=>dZ [250000] (bX (ae [a,w,-h]) (ae [a,w,-h]))
 |3=>dJ [10000] (dZ [250000] (bX (ae [a,w,-h]) (ae [a,w,-h])))
 |4=>bX [1000] (ae [a,w,-h])
 |5=>bX (bX [1000] (ae [a,w,-h])) (bX [1000] (ae [a,w,-h]))
 |_=>dJ [10000000000] (bX (bX [1000] (ae [a,w,-h])) (bX [1000] (ae [a,w,-h])))
def rq(a w h:Int):ao:=nm (dD (w3q a w h)).1
def kd(n:Int):SV:=.bF 1 1 (aY 1 [[.int .u32 n]])
def kp(n:Int):SV:=.bF 2 1 (aY 2 [[.ff,kd n]])
def kp2(a b:Int):SV:=.bF 2 1 (aY 2 [[.ff,.bF 1 2 (aY 1 [[.int .u32 a],[.int .u32 b]])]])
def e1:SV:=.bF 1 0 (aY 1 [])
def e2:SV:=.bF 2 0 (aY 2 [])
def Pg(X W G:SV)(b:Nat):List (Nat×List SV×SV):=[
 (230,[.bF 1 3 (aY 1 [[X],[W],[G]])],.tg b),(229,[.tg b,e2],.tg b),(292,[.tg b,.tg b],.tg (b+1)),(289,[kp 250000,.tg (b+1)],.tg (b+2)),
 (229,[kp 10000,.tg (b+2)],.tg (b+3)),(292,[e2,.tg b],e2),(292,[kp 1000,.tg b],.tg (b+4)),(289,[.tg (b+4),e2],.tg (b+4)),
 (292,[.tg (b+4),.tg (b+4)],.tg (b+5)),(229,[kp2 1410065408 2,.tg (b+5)],.tg (b+6))]
def w3S(b:Nat):SV:=.bF 1 3 (aY 1 [[.bF 1 1 (aY 1 [[.tg (b+3)]])],[.bF 1 1 (aY 1 [[.tg (b+3)]])],[.bF 1 3 (aY 1 [[kp 500000],[kp 500000],[.tg (b+6)]])]])
def noR:SV:=.df [.agg [S e2,S .ff,S e1,S (I 0),S .ff,S e1,S (I 0)],.ff,I 0]
def rtC(i o:Nat):List SV:=[.tg i,.ff,.tg (o+8),Y (o+6) 0 1000,.ff,.tg (o+9),Y (o+7) 0 1000]
def rtA(i o:Nat):SV:=.agg [S (.tg i),S .ff,S (.tg (o+8)),S (Y (o+6) 0 1000),S .ff,S (.tg (o+9)),S (Y (o+7) 0 1000)]
def rtR(o:Nat):SV:=.df [rtA (o+7) o,.tt,I 0]
section
variable [bW]
theorem dc_d1{d:Nat}{n:Int}:DC cD (d+2) [kd n] [n]:=ml rfl rfl λi b=>by
 have:i=0:=by omega
 subst this;exact FQ
theorem dc_k{d:Nat}{n:Int}(b:0<n)(c:n<4294967296):DC aj (d+2) [.ff,kd n] n:=Ax (.inl rfl) dc_d1 (aav b c).symm (λ_=>by omega) (λe=>by cases e)
theorem dc_kp{d:Nat}{n:Int}(b:0<n)(c:n<4294967296):DC fm (d+3) [kp n] [n]:=ml rfl rfl λi e=>by
 have:i=0:=by omega
 subst this;exact dc_k b c
theorem da_kp{n:Int}(b:0<n)(c:n<4294967296):DA Pp (kp n) [n]:=yk rfl rfl λi d=>by
 have:i=0:=by omega
 subst this;exact dc_k b c
theorem da_big:DA Pp (kp2 1410065408 2) [10000000000]:=yk rfl rfl λi b=>by
 have:i=0:=by omega
 subst this;refine Ax (L:=[1410065408,2]) (.inl rfl) (ml rfl rfl λj c=>?_) (by kernel_rfl) (λ_=>by show(0:Int)<=10000000000;omega) (λe=>by cases e);rcases(show j=0\/j=1 by omega)with rfl|rfl<;>exact FQ
theorem da_e2:DA Pp e2 []:=yk rfl rfl λi b=>by omega
theorem da_p{i:Nat}{p:Ω}(h:bW.tag i=pV p):DA Pp (.tg i) p:=da_tg h
theorem pw_w{i:Nat}{p:Ω}(h:bW.tag i=pV p):oZ (pS p) (.tg i):=uw h rfl
theorem weak_e2:oZ (pS []) e2:=vZ (es:=2) (n:=0) λi b=>by omega
theorem sz1{n:Int}(h:n.natAbs<18446744073709551616):bj 100000 [n]:=jd (by simp) λz c=>by
 simp at c;subst c;have d:(z.natAbs:Int)<pw 2:=by rw[fE];exact_mod_cast h
 have:=gT (a:=2) (b:=100000) (by omega);omega
theorem sz0:bj 100000 []:=jd (by simp) (by simp)
theorem tl_full{p:Ω}(h:ae p=p):tl p=p.length:=by rw[<-bn,h]
theorem mul_out{p q r:Ω}{n m k:Nat}(c:ae p=p)(d:ae q=q)(e:p.length=n)(b:q.length=m)(u:n≠0)(w:m≠0)(h:n+m-1=k)(i:(List.range k).map (λj=>mulC p q j n)=r)(o:ae r=r):bX p q=r:=by
 unfold bX;rw[tl_full c,tl_full d,e,b,JA (by omega),h];unfold tu;rw[i,o]
theorem add_out{p q r:Ω}{k:Nat}(b:ae p=p)(c:ae q=q)(d:max p.length q.length=k)(e:(List.range k).map (λi=>p.getD i 0+q.getD i 0)=r)(h:ae r=r):dZ p q=r:=by
 unfold dZ;rw[tl_full b,tl_full c,d];unfold TL;rw[e,h]
theorem uH{p:Ω}(n:Nat)(b:p.length=n+1)(h:p.getD n 0≠0):ae p=p:=iP (.inr (by rw[aN,b];exact h))
section
variable {a w h : Int} (h0 : h ≠ 0)
include h0
theorem t_0:ae [a,w,-h]=[a,w,-h]:=uH 2 rfl (show-h≠0 by omega)
theorem hh_ne:h*h≠0:=λe=>by rcases JW.1 e with e|e<;>exact h0 e
theorem t_1:bX [a,w,-h] [a,w,-h]=[a*a,2*(a*w),w*w-2*(a*h),-(2*(w*h)),h*h]:=by
 refine mul_out (n:=3) (m:=3) (k:=5) (t_0 h0) (t_0 h0) rfl rfl (by decide) (by decide) rfl ?_ (uH 4 rfl (hh_ne h0));show [mulC _ _ 0 3,mulC _ _ 1 3,mulC _ _ 2 3,mulC _ _ 3 3,mulC _ _ 4 3]=_
 simp[Mo,rk];refine⟨?_,?_,?_⟩<;>grind
theorem t_2:dZ [250000] [a*a,2*(a*w),w*w-2*(a*h),-(2*(w*h)),h*h]=[250000+a*a,2*(a*w),w*w-2*(a*h),-(2*(w*h)),h*h]:=by
 refine add_out (k:=5) (Ap (by omega)) (uH 4 rfl (hh_ne h0)) rfl ?_ (uH 4 rfl (hh_ne h0));show [_,_,_,_,_]=_
 simp
omit h0 in
theorem t_n(x y z u v:Int):dH [x,y,z,u,v]=[-x,-y,-z,-u,-v]:=by unfold dH;rfl
theorem t_3:dJ [10000] [250000+a*a,2*(a*w),w*w-2*(a*h),-(2*(w*h)),h*h]=qp (-240000) 1 a w h:=by
 have b:ae [250000+a*a,2*(a*w),w*w-2*(a*h),-(2*(w*h)),h*h]=[250000+a*a,2*(a*w),w*w-2*(a*h),-(2*(w*h)),h*h]:=uH 4 rfl (hh_ne h0);unfold dJ;rw[b,t_n];have c: -(h*h)≠0:=by have:=hh_ne h0;omega
 refine add_out (k:=5) (Ap (by omega)) (uH 4 rfl c) rfl ?_ (uH 4 rfl (show-(1*(h*h))≠0 by omega));show [_,_,_,_,_]=_
 unfold qp;simp;omega
theorem t_4:bX [1000] [a,w,-h]=[1000*a,1000*w,-(1000*h)]:=by
 refine mul_out (n:=1) (m:=3) (k:=3) (Ap (by omega)) (t_0 h0) rfl rfl (by decide) (by decide) rfl ?_ (uH 2 rfl (show-(1000*h)≠0 by omega));show [mulC _ _ 0 1,mulC _ _ 1 1,mulC _ _ 2 1]=_
 simp[Mo,rk];omega
theorem t_5:bX [1000*a,1000*w,-(1000*h)] [1000*a,1000*w,-(1000*h)]=[1000000*(a*a),1000000*(2*(a*w)),1000000*(w*w-2*(a*h)),-(1000000*(2*(w*h))),1000000*(h*h)]:=by
 have e:=t_1 (a:=1000*a) (w:=1000*w) (h:=1000*h) (by omega);rw[e];simp only[Qw,JK];refine⟨?_,?_,?_,?_,?_⟩<;>grind
theorem t_6:dJ [10000000000] [1000000*(a*a),1000000*(2*(a*w)),1000000*(w*w-2*(a*h)),-(1000000*(2*(w*h))),1000000*(h*h)]=qp 10000000000 1000000 a w h:=by
 have c:=hh_ne h0;have b:ae [1000000*(a*a),1000000*(2*(a*w)),1000000*(w*w-2*(a*h)),-(1000000*(2*(w*h))),1000000*(h*h)]=[1000000*(a*a),1000000*(2*(a*w)),1000000*(w*w-2*(a*h)),-(1000000*(2*(w*h))),1000000*(h*h)]:=uH 4 rfl (show 1000000*(h*h)≠0 by omega);unfold dJ;rw[b,t_n];refine add_out (k:=5) (Ap (by omega)) (uH 4 rfl (show-(1000000*(h*h))≠0 by omega)) rfl ?_ (uH 4 rfl (show-(1000000*(h*h))≠0 by omega))
 show [_,_,_,_,_]=_
 unfold qp;simp;omega
theorem tq_all:tq a w h 0=[a,w,-h]/\tq a w h 1=[a*a,2*(a*w),w*w-2*(a*h),-(2*(w*h)),h*h]/\tq a w h 2=[250000+a*a,2*(a*w),w*w-2*(a*h),-(2*(w*h)),h*h]/\tq a w h 3=qp (-240000) 1 a w h/\
 tq a w h 4=[1000*a,1000*w,-(1000*h)]/\tq a w h 5=[1000000*(a*a),1000000*(2*(a*w)),1000000*(w*w-2*(a*h)),-(1000000*(2*(w*h))),1000000*(h*h)]/\tq a w h 6=qp 10000000000 1000000 a w h:=by
 unfold tq;simp only[t_0 h0,t_1 h0,t_2 h0,t_3 h0,t_4 h0,t_5 h0,t_6 h0,and_self]
end
theorem sz_of{p:Ω}(d:p.length<=5)(h:∀z∈p,z.natAbs<18446744073709551616):bj 100000 p:=jd (by omega) λz c=>by
 have e:=h z c;have i:(z.natAbs:Int)<pw 2:=by rw[fE];have:(2:Int)^(32*2)=18446744073709551616:=rfl;omega
 have:=gT (a:=2) (b:=100000) (by omega);omega
theorem tq_sz{a w h:Int}(B:Bnd a w h):∀i,i<7->bj 100000 (tq a w h i)/\(tq a w h i).length<=5:=by
 obtain⟨k,e1,e2,m,o,p,q⟩:=tq_all (a:=a) (w:=w) (h:=h) (by have:=B.h1;omega);obtain⟨u,x,y,A,C,D,E,F,G,r⟩:=prods B;obtain⟨c,d,b3,b4,e,j⟩:=B;intro i H;rcases(show i=0\/i=1\/i=2\/i=3\/i=4\/i=5\/i=6 by omega)with rfl|rfl|rfl|rfl|rfl|rfl|rfl
 . rw[k];exact⟨sz_of (by simp) λz b=>by simp at b;rcases b with rfl|rfl|rfl<;>omega,by simp⟩
 . rw[e1];exact⟨sz_of (by simp) λz b=>by simp at b;rcases b with rfl|rfl|rfl|rfl|rfl<;>omega,by simp⟩
 . rw[e2];exact⟨sz_of (by simp) λz b=>by simp at b;rcases b with rfl|rfl|rfl|rfl|rfl<;>omega,by simp⟩
 . rw[m];exact⟨an (qp_sz ⟨c,d,b3,b4,e,j⟩ (by decide) (by omega) (by omega)) (by omega),by unfold qp;simp⟩
 . rw[o];exact⟨sz_of (by simp) λz b=>by simp at b;rcases b with rfl|rfl|rfl<;>omega,by simp⟩
 . rw[p];exact⟨sz_of (by simp) λz b=>by simp at b;rcases b with rfl|rfl|rfl|rfl|rfl<;>omega,by simp⟩
 . rw[q];exact⟨an (qp_sz ⟨c,d,b3,b4,e,j⟩ (by decide) (by omega) (by omega)) (by omega),by unfold qp;simp⟩
theorem facts_p{a w h:Int}{X W G:SV}{b:Nat}(B:Bnd a w h)(r:DC (aF .i64) 13 [X] a)(u:DC (aF .i64) 13 [W] w)(x:DC (aF .i64) 13 [G] (-h))(p:∀i,i<7->bW.tag (b+i)=pV (tq a w h i)):A8 prog (Pg X W G b):=by
 have j:h≠0:=by have:=B.h1;omega
 have y:=hh_ne j;have c:=tq_sz B;have A:dJ (tq a w h 0) []=tq a w h 0:=by
  have m:ae (tq a w h 0)=tq a w h 0:=by rw[(tq_all j).1];exact t_0 j
  have e:ae ([]:Ω)=[]:=by rw[dq];exact List.take_nil
  unfold dJ;rw[e,show dH []=[] by unfold dH;rfl];exact plus_nil m
 have C:bX [] (tq a w h 0)=[]:=by
  have e:tl ([]:Ω)=0:=by have:=cX ([]:Ω);simpa using this
  unfold bX;rw[JB (.inl e)]
 have D:dZ (tq a w h 4) []=tq a w h 4:=plus_nil (by rw[(tq_all j).2.2.2.2.1];exact uH 2 rfl (show-(1000*h)≠0 by omega));have t:=λi k=>da_p (p i k)
 have d:=λi k=>pw_w (p i k)
 have t0:=t 0 (by omega);have o:=d 0 (by omega);rw[Jv]at t0 o;unfold Pg;refine .cons (DE (a:=[a,w,-h]) k230.1 (yk rfl rfl λi k=>?_) ?_ rfl o)<|
  .cons (gS Uc.1 t0 da_e2 ⟨(c 0 (by omega)).1,sz0⟩ rfl (by show oZ (pS (dJ (tq a w h 0) [])) _;rw[A];exact o))<|
  .cons (gS WJ.1 t0 t0 ⟨(c 0 (by omega)).1,(c 0 (by omega)).1,by have:=(c 0 (by omega)).2;show(tq a w h 0).length+(tq a w h 0).length<=1000;omega⟩ rfl (d 1 (by omega)))<|
  .cons (gS UL.1 (da_kp (by omega) (by omega)) (t 1 (by omega)) ⟨sz1 (by omega),(c 1 (by omega)).1⟩ rfl (d 2 (by omega)))<|
  .cons (gS Uc.1 (da_kp (by omega) (by omega)) (t 2 (by omega)) ⟨sz1 (by omega),(c 2 (by omega)).1⟩ rfl (d 3 (by omega)))<|
  .cons (gS WJ.1 da_e2 t0 ⟨sz0,(c 0 (by omega)).1,by have:=(c 0 (by omega)).2;show([]:Ω).length+(tq a w h 0).length<=1000;simp;omega⟩ rfl (by show oZ (pS (bX [] (tq a w h 0))) _;rw[C];exact weak_e2))<|
  .cons (gS WJ.1 (da_kp (by omega) (by omega)) t0 ⟨sz1 (by omega),(c 0 (by omega)).1,by have:=(c 0 (by omega)).2;show([1000]:Ω).length+(tq a w h 0).length<=1000;simp;omega⟩ rfl (d 4 (by omega)))<|
  .cons (gS UL.1 (t 4 (by omega)) da_e2 ⟨(c 4 (by omega)).1,sz0⟩ rfl (by show oZ (pS (dZ (tq a w h 4) [])) _;rw[D];exact d 4 (by omega)))<|
  .cons (gS WJ.1 (t 4 (by omega)) (t 4 (by omega)) ⟨(c 4 (by omega)).1,(c 4 (by omega)).1,by have:=(c 4 (by omega)).2;show(tq a w h 4).length+(tq a w h 4).length<=1000;omega⟩ rfl (d 5 (by omega)))<|
  .cons (gS Uc.1 da_big (t 5 (by omega)) ⟨sz1 (by omega),(c 5 (by omega)).1⟩ rfl (d 6 (by omega))) .nil
 . rcases(show i=0\/i=1\/i=2 by omega)with rfl|rfl|rfl
   . exact r
   . exact u
   . exact x
 . obtain⟨E,F,b3,b4,H,J⟩:=B;unfold lR;refine⟨by simp,λz q=>?_⟩;simp at q;rcases q with rfl|rfl|rfl<;>(unfold fN;omega)
theorem da_w3{a w h:Int}{b:Nat}(d:h≠0)(c:bW.tag (b+3)=pV (tq a w h 3))(e:bW.tag (b+6)=pV (tq a w h 6)):DA argW (w3S b) (w3q a w h):=by
 rw[(tq_all d).2.2.2.1]at c;rw[(tq_all d).2.2.2.2.2.2]at e;exact yk rfl rfl λi m=>by
  rcases(show i=0\/i=1\/i=2 by omega)with rfl|rfl|rfl
  . exact ml rfl rfl λj k=>by
     have:j=0:=by omega
     subst this;exact z7 c
  . exact ml rfl rfl λj k=>by
     have:j=0:=by omega
     subst this;exact z7 c
  . exact ml rfl rfl λj k=>by
     rcases(show j=0\/j=1\/j=2 by omega)with rfl|rfl|rfl
     . exact dc_kp (by omega) (by omega)
     . exact dc_kp (by omega) (by omega)
     . exact z7 e
def WkL:List SV->List SV->Prop
 |[],[]=>True
 |x::r,y::s=>oZ x y/\WkL r s
 |_,_=>False
theorem KZ:∀{l m:List SV},WkL l m->aa (l.map .s)=aa (m.map .s)
 |[],[],_=>rfl
 |_::_,_::_,h=>by simp only[J8,aa,ar.size];rw[KZ h.2]
 |[],_::_,h=>h.elim
 |_::_,[],h=>h.elim
theorem NW:∀{l m:List SV},WkL l m->∀{k:Nat}{y:SV},flat (m.map .s) k=some y->∃x,flat (l.map .s) k=some x/\oZ x y
 |[],[],_,_,_,h=>by cases h
 |x::l,y::m,h,k,z,b=>by
  simp only[J8]at b⊢;cases k with
  |zero=>rw[cC]at b;cases b;exact⟨x,by rw[cC],h.1⟩
  |succ k=>rw[cB]at b;rw[cB];exact NW h.2 b
 |[],_::_,h,_,_,_=>h.elim
 |_::_,[],h,_,_,_=>h.elim
theorem sG{l m:List SV}(h:WkL l m):oZ (.agg (l.map .s)) (.agg (m.map .s)):=by
 intro ro o v b;obtain⟨q,c,d,e⟩:=cU b;rw[c];refine .agg _ _ _ (by rw[<-KZ h];exact d) λk y i=>?_
 obtain⟨x,j,p⟩:=NW h i;exact p _ _ _ (e k x j)
theorem wk_len:∀{l m:List SV},WkL l m->l.length=m.length
 |[],[],_=>rfl
 |_::_,_::_,h=>by simp[wk_len h.2]
 |[],_::_,h=>h.elim
 |_::_,[],h=>h.elim
theorem wk_at:∀{l m:List SV},WkL l m->∀{k:Nat}{y:SV},m[k]?=some y->∃x,l[k]?=some x/\oZ x y
 |[],[],_,_,_,h=>by simp at h
 |x::l,y::m,h,0,z,hk=>by simp at hk;subst hk;exact⟨x,rfl,h.1⟩
 |x::l,y::m,h,k+1,z,hk=>by simp at hk⊢;exact wk_at h.2 hk
 |[],_::_,h,_,_,_=>h.elim
 |_::_,[],h,_,_,_=>h.elim
theorem sD{l m:List SV}(h:WkL l m):oZ (.df l) (.df m):=by
 intro ro o w b;obtain⟨q,c,d,e⟩:=jt b;rw[c];refine .df _ _ _ (by rw[<-wk_len h];exact d) λi r j=>?_
 obtain⟨x,k,p⟩:=wk_at h j;exact p _ _ _ (e i x k)
theorem aa3{es n:Nat}{f g:Nat->List SV}(e:∀i,i<n->WkL (f i) (g i)):oZ (.bF es n f) (.bF es n g):=by
 intro ro o v h;rcases dE h with⟨k,A,cap,m⟩|⟨b,y,cap,p,m,c,k,hm,q⟩
 . rw[m];exact .fe _ _ _ _ _ _ k
 . rw[m];refine .bF _ _ _ _ _ _ _ p c (λi d=>by rw[<-wk_len (e i d)];exact k i d) hm (λi j z d r=>?_);obtain⟨x,u,w⟩:=wk_at (e i d) r;exact w _ _ _ (q i j x d u)
theorem w_b{b:Bool}:oZ (.bool b) (if b then .tt else .ff):=by
 intro ro o v h;rw[jJ h];cases b
 . exact .ff _
 . exact .tt _
theorem w_bz{z:Int}(h:0<=z):oZ (.bool (decide (z<0))) .ff:=AP h
theorem w_t{i:Nat}{l:Ω}(h:bW.tag i=lV l):oZ (Av (aF .u32) l) (.tg i):=uw h rfl
theorem Gq:oZ (Av (aF .u32) (dz 0)) e1:=by rw[gz];exact vZ (es:=1) (n:=0) λi b=>by omega
structure RsN (q : ao) (i o : Nat) : Prop where
 p : bW.tag i = pV q.1
 l : bW.tag (o + 8) = lV (dz q.2.1.1)
 h : bW.tag (o + 9) = lV (dz q.2.2.1)
 el : bW.val (o + 6) = q.2.1.2
 eh : bW.val (o + 7) = q.2.2.2
 b : 0 <= q.2.1.1 /\ 0 <= q.2.2.1 /\ 0 <= q.2.1.2 /\ q.2.1.2 <= 1000 /\ 0 <= q.2.2.2 /\ q.2.2.2 <= 1000
theorem w_num{q:ao}{i o:Nat}(h:RsN q i o):oZ (nS q) (rtA i o):=by
 obtain⟨c,d,b3,b4,e,j⟩:=h.b;exact sG (l:=ei.enc q) (m:=rtC i o) ⟨pw_w h.p,w_bz c,w_t h.l,w_y h.el.symm b3 b4,w_bz d,w_t h.h,w_y h.eh.symm e j,trivial⟩
theorem LS{d:Nat}{b y e:SV}{z k:Int}(c:DC aj (d+1) [b,y] z)(h:DC (aF .i64) (d+1) [e] k):DC cR (d+1) [b,y,e] (z,k):=by
 constructor
 . show oB (aj.dec [iF (d+1) b,iF (d+1) y]) (λa=>oB (rI .i64 (iF (d+1) e)) λb=>some (a,b))=_
   have e1:aj.dec [iF (d+1) b,iF (d+1) y]=some z:=c.1;have e2:rI .i64 (iF (d+1) e)=some k:=h.1;rw[e1];show oB (rI .i64 (iF (d+1) e)) _=_
   rw[e2];rfl
 . exact c.2
theorem dc_n{d:Nat}{p x y z u v w:SV}{q:ao}(e:DC fm (d+1) [p] q.1)(h:DC cR (d+1) [x,y,z] q.2.1)(i:DC cR (d+1) [u,v,w] q.2.2):DC ei (d+1) [p,x,y,z,u,v,w] q:=by
 constructor
 . show oB (fm.dec [iF (d+1) p]) (λa=>oB (cR.dec [iF (d+1) x,iF (d+1) y,iF (d+1) z]) λb=>oB (cR.dec [iF (d+1) u,iF (d+1) v,iF (d+1) w]) λc=>some (a,b,c))=_
   have e1:fm.dec [iF (d+1) p]=some q.1:=e.1;have e2:cR.dec [iF (d+1) x,iF (d+1) y,iF (d+1) z]=some q.2.1:=h.1;have j:cR.dec [iF (d+1) u,iF (d+1) v,iF (d+1) w]=some q.2.2:=i.1;rw[e1];show oB (cR.dec [iF (d+1) x,iF (d+1) y,iF (d+1) z]) _=_
   rw[e2];show oB (cR.dec [iF (d+1) u,iF (d+1) v,iF (d+1) w]) _=_
   rw[j];rfl
 . exact⟨e.2,h.2,i.2⟩
theorem da_num{q:ao}{i o:Nat}(h:RsN q i o):DA MA (rtA i o) q:=by
 obtain⟨j,k,_⟩:=h.b;have c:=dc_n (d:=12) (q:=q) (z7 h.p) (LS (Ax (.inl rfl) (z7 h.l) rfl (λ_=>j) (λe=>by cases e)) (by have:=Sz (ik:=.i64) (d:=12) (e:=.v (o+6)) (lo:=0) (hi:=1000);rw[show(XE.v (o+6)).den=q.2.1.2 from h.el]at this;exact this)) (LS (Ax (.inl rfl) (z7 h.h) rfl (λ_=>k) (λe=>by cases e)) (by have:=Sz (ik:=.i64) (d:=12) (e:=.v (o+7)) (lo:=0) (hi:=1000);rw[show(XE.v (o+7)).den=q.2.2.2 from h.eh]at this;exact this))
 refine⟨_,?_,c.2⟩;show oB (ei.dec ((rtC i o).map (iF 13))) (λa=>some (ei.ak ((rtC i o).map (iF 13)),a))=_
 have e:=c.1;show oB (ei.dec ([.tg i,.ff,.tg (o+8),.sy .i64 (.v (o+6)) 0 1000,.ff,.tg (o+9),.sy .i64 (.v (o+7)) 0 1000].map (iF 13))) _=_
 rw[e];rfl
theorem fact_no{a w h:Int}{b:Nat}(B:Bnd a w h)(d:bW.tag (b+3)=pV (tq a w h 3))(i:bW.tag (b+6)=pV (tq a w h 6))(c:100<=a+w-h):Fact prog 167 [w3S b] noR:=by
 obtain⟨p,j⟩:=fir_no B c;refine DE k167.1 (da_w3 (by have:=B.h1;omega) d i) p rfl ?_;show oZ (.df [nS (nm (dD (w3q a w h)).1),.bool (dD (w3q a w h)).2,iS 0]) noR
 rw[AH j,BT];have e:ae ((d0,false):ao×Bool).1.1=[]:=by show ae []=[];rw[dq];exact List.take_nil
 rw[e];exact sD ⟨sG (l:=ei.enc ([],(0,0),(0,0))) (m:=[e2,.ff,e1,I 0,.ff,e1,I 0]) ⟨weak_e2,w_bz (by show(0:Int)<=0;omega),Gq,Re,w_bz (by show(0:Int)<=0;omega),Gq,Re,trivial⟩,w_b,Re,trivial⟩
theorem facts_rt{a w h:Int}{b o:Nat}(B:Bnd a w h)(k:bW.tag (b+3)=pV (tq a w h 3))(m:bW.tag (b+6)=pV (tq a w h 6))(i:a+w-h<=99)(q:bW.tag (o+7)=pV (rq a w h).1)(r:bW.tag (o+8)=lV (dz (rq a w h).2.1.1))(u:bW.tag (o+9)=lV (dz (rq a w h).2.2.1))(x:bW.val (o+6)=(rq a w h).2.1.2)(y:bW.val (o+7)=(rq a w h).2.2.2)
 (j:bW.tag (o+10)=pV (bE (rq a w h).1)) (z:bW.val (o+5)=kX (rq a w h)):
 A8 prog [(167,[w3S b],rtR o),(209,[rtA (o+7) o],.tt),(210,[rtA (o+7) o],rtA (o+10) o),(325,[rtA (o+7) o],.df [Y (o+5) 0 15,I 0])]:=by
 obtain⟨p,A,G⟩:=fir_hit B i;have G:GoodR a w h (rq a w h):=G;have c:RsN (rq a w h) (o+7) o:=⟨q,r,u,x,y,G.b⟩;have d:=da_num c;refine .cons ?_<|.cons (DE k209.1 d G.v rfl w_b)<|.cons (DE k210.1 d G.p rfl ?_)<|.cons (DE k325.1 d G.six rfl ?_) .nil
 . refine DE k167.1 (da_w3 (by have:=B.h1;omega) k m) p rfl ?_;show oZ (.df [nS (rq a w h),.bool (dD (w3q a w h)).2,iS 0]) (rtR o)
   rw[A];exact sD ⟨w_num c,w_b,Re,trivial⟩
 . have e:cM (rq a w h)=(bE (rq a w h).1,(rq a w h).2.1,(rq a w h).2.2):=by unfold cM;rfl
   show oZ (nS (cM (rq a w h))) _
   rw[e];exact w_num ⟨j,c.l,c.h,c.el,c.eh,c.b⟩
 . exact sD ⟨w_y z.symm G.s0 G.s1,Re,trivial⟩
end
end Go.Proofs.Big
namespace Go.Proofs.Big
open Go Go.Sx Go.Proofs Go.RowKit Go.Proofs.Top Tryz
def yR:SV:=Y 0 100 1100
def wF:SV:=Y 1 (-400) 400
def tkR:SV:=Y 4 0 300
def aaI:List SV:=[.str [119],I 1,I 0,I (-500),I 0,I 500,I 0,Y 3 0 8,I 0,I 0,I 0,I (-1),I (-1)]
def w5:SV:=.agg [S (I 100),S (I 1),S (I 0),S (I 0),S gN,S (I 0),S (I 0),S .aq,S (.bF 13 1 (aY 13 [aaI])),S .aq,S .aq,S .aq,S .aq,S .aq,S .aq,S .aq,S .aq,S .aq]
def mw(y v:SV):SV:=.bF 7 1 (aY 7 [[I 1,I 0,I 0,I 0,y,I 0,v]])
def Ec(b v k:SV):SV:=.agg [S b,S (mw yR v),S k,S k,S (.bF 1 1 (aY 1 [[.ff]])),S (.int .u32 0)]
def FV:SV:=.agg [S (.int .u32 0),S (I 0),S (I 0)]
def motR(v g:SV):SV:=.bF 6 1 (aY 6 [[I 0,yR,I 0,v,I 0,g]])
def NC(c y v b:SV):SV:=.df [.agg [S c,S (mw y v),S .emp,S .emp,S (.bF 1 1 (aY 1 [[.ff]])),S (.int .u32 0)],.agg [S b,S (.int .u64 0),S .aq,S (I 0)],I 0]
def stA:SV:=Ec tkR wF .emp
def Rh:SV:=Ec tkR wN .emp
def stZ:SV:=Ec tkR (I 0) .emp
def stI:SV:=Ec (I 0) (I 0) .aq
def tkV:SV:=.sy .i64 (.add (.v 4) (.c 1)) 1 301
def RM:SV:=.bF 5 1 (aY 5 [[I 1,I 0,I 1,I 0,Y 9 1 400]])
def conR(o:Nat):SV:=.bF 10 1 (aY 10 [[I 0,I 1,I 0,.tg (o+7),.ff,.tg (o+8),Y (o+6) 0 1000,.ff,.tg (o+9),Y (o+7) 0 1000]])
noncomputable def XH[bW](H:HT)(l:List (Nat×List SV×SV)):DX:=⟨XW.P,XW.I,(XW.more l).D,H⟩
theorem ui[bW]{H:HT}{l:List (Nat×List SV×SV)}(b:yf H)(c:A8 prog l):An (XH H l):=⟨okW.I,(An.more okW c).D,b⟩
theorem m44[bW]:cF XW 3000 44 f44 [w5] (I 0)=true:=by kernel_rfl
def chkF:Nat×List SV×SV:=(44,[w5],I 0)
theorem chk_fact[bW]:Fact prog 44 [w5] (I 0):=au okW hm (by kernel_rfl) m44
def belR:Nat×List SV×SV:=(197,[.sy .i64 (.mul (.v 0) (.c 1000)) 100000 1100000,I 100,I 1000000],.ff)
def Cm(s:SV):Nat×List SV×SV:=(28,[w5,s],I 0)
noncomputable def XV[bW]:DX:=XH [] [chkF,belR]
theorem vmA[bW]:cF XV 2000 28 f28 [w5,stA] (I 0)=true:=by kernel_rfl
theorem vmN[bW]:cF XV 2000 28 f28 [w5,Rh] (I 0)=true:=by kernel_rfl
theorem vmZ[bW]:cF XV 2000 28 f28 [w5,stZ] (I 0)=true:=by kernel_rfl
theorem vmI[bW]:cF XV 2000 28 f28 [w5,stI] (I 0)=true:=by kernel_rfl
def Dl(s v g:SV):List SV:=[w5,s,motR v g,.emp]
def qR:SV:=.df [.aq,I 0]
def aaB(o:Nat):SV:=.df [conR o,I 0]
def extF(v:SV)(i:Nat):Nat×List SV×SV:=(297,[yR,v,gN],.df [Y i 101 1100,Y (i+1) 100 200000])
def extN(v:SV)(i:Nat):Nat×List SV×SV:=(297,[yR,v,gN],.df [Y i (-400) 100,Y (i+1) 100 200000])
def fFar(s v:SV)(i:Nat):List (Nat×List SV×SV):=[Cm s,extF v i]
def fNo(s v:SV)(i b:Nat):List (Nat×List SV×SV):=Cm s::extN v i::(167,[w3S b],noR)::Pg yR v gN b
def fCon(s v:SV)(i b:Nat):List (Nat×List SV×SV):=Cm s::extN v i::(167,[w3S b],rtR b)::Pg yR v gN b
def y100:XE:=.sub (.v 0) (.c 100)
def fSt(s:SV):List (Nat×List SV×SV):=[Cm s,(230,[.bF 1 3 (aY 1 [[yR],[I 0],[I 0]])],kp 100)]
end Go.Proofs.Big
namespace Go.Proofs.Big
open Go Go.Sx Go.Proofs Go.RowKit Go.Proofs.Top
def fin1:XE:=.add (.add (.v 0) (.v 1)) (.v 2)
def fin8:XE:=.add (.add (.v 0) (.v 8)) (.v 2)
def fin0:XE:=.add (.v 0) (.v 2)
def end1:XE:=.add (.v 1) (.mul (.v 2) (.c 2))
def end8:XE:=.add (.v 8) (.mul (.v 2) (.c 2))
def end0:XE:=.mul (.v 2) (.c 2)
def bud1:XE:=.add (.mul (.v 1) (.v 1)) (.mul (.mul (.v 2) (.add (.v 1) (.v 2))) (.c 4))
def bud8:XE:=.add (.mul (.v 8) (.v 8)) (.mul (.mul (.v 2) (.add (.v 8) (.v 2))) (.c 4))
def bud0:XE:=.mul (.mul (.v 2) (.v 2)) (.c 4)
def budP:XE:=.add (.mul (.v 8) (.v 8)) (.mul (.mul (.v 2) (.v 8)) (.c 4))
def qY1:XE:=.add (.add (.mul (.v 0) (.c 256)) (.mul (.mul (.v 5) (.c 16)) (.v 1))) (.mul (.mul (.v 5) (.v 5)) (.v 2))
def qY8:XE:=.add (.add (.mul (.v 0) (.c 256)) (.mul (.mul (.v 35) (.c 16)) (.v 8))) (.mul (.mul (.v 35) (.v 35)) (.v 2))
def aaW:Nat×List SV×SV:=(135,[w5,.int .u32 0,I 0,.agg [S (I 0),S yR]],.agg [S (I 0),S gN])
def noF(s v g:SV):Nat×List SV×SV:=(141,Dl s v g,qR)
def coF(s v g:SV)(o:Nat):Nat×List SV×SV:=(141,Dl s v g,aaB o)
def fRt(o:Nat):List (Nat×List SV×SV):=[(209,[rtA (o+7) o],.tt),(210,[rtA (o+7) o],rtA (o+10) o),(325,[rtA (o+7) o],.df [Y (o+5) 0 15,I 0])]
def resF(v:SV):Nat×List SV×SV:=(216,aaF (Y 3 0 8) wN,aaT v)
def strF:Nat×List SV×SV:=(276,[.agg [S (I 0),S wN],.agg [S (I 0),S (I 0)],.agg [S (I 0),S (I 1)]],Y 9 1 400)
def lifF:Nat×List SV×SV:=(347,[.agg [S (I 0),S gN],.bF 2 1 (aY 2 [[I 0,I 1]])],.agg [S (I 0),S (I 0)])
def gA:List (Nat×List SV×SV):=[Cm stA,aaW,noF stA wF gN]
def gI:List (Nat×List SV×SV):=[Cm stI,aaW,noF stI (I 0) gN]
def gB:List (Nat×List SV×SV):=Cm Rh::aaW::coF Rh wN gN 0::noF Rh vB gN::resF vB::strF::fRt 0
def gC:List (Nat×List SV×SV):=Cm Rh::aaW::coF Rh wN gN 0::coF Rh (Y 8 1 200) gN 30::noF Rh (I 0) (I 0)::resF (Y 8 1 200)::strF::lifF::(fRt 0++fRt 30)
def gD:List (Nat×List SV×SV):=Cm Rh::aaW::coF Rh wN gN 0::coF Rh (I 0) gN 30::noF Rh (I 0) (I 0)::resF (I 0)::strF::lifF::(fRt 0++fRt 30)
def gE(s:SV):List (Nat×List SV×SV):=Cm s::aaW::coF s (I 0) gN 0::noF s (I 0) (I 0)::lifF::fRt 0
def hA:HT:=[(fin1,100,1100),(.sub bud1 (.mul end1 end1),0,0)]
def hI:HT:=[(fin0,100,1100),(.sub bud0 (.mul end0 end0),0,0)]
def hB:HT:=[(qY1,25600,400000),(fin8,100,1100),(.sub bud8 (.mul end8 end8),0,0)]
def hC:HT:=[(qY1,25600,400000),(qY8,25600,400000),(budP,-100000,-1)]
def hD:HT:=[(qY1,25600,400000)]
def oA:SV:=NC tkV (.sy .i64 fin1 100 1100) (.sy .i64 end1 (-460) 398) .aq
def oI:SV:=NC (I 1) (.sy .i64 fin0 100 1099) (.sy .i64 end0 (-60) (-2)) .aq
def oBn:SV:=NC tkV (.sy .i64 fin8 100 1100) (.sy .i64 end8 (-60) 198) RM
def oC:SV:=NC tkV yR (I 0) RM
def oE:SV:=NC tkV yR (I 0) .aq
def oE0:SV:=NC (I 1) yR (I 0) .aq
end Go.Proofs.Big
