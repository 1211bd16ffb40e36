import Derived.Test.YtpjiopgakifhaaaGreatRA
import Derived.Test.YtpjiopgakifhaaaGreatRX
set_option linter.unusedSectionVars false
set_option linter.unusedSimpArgs false
set_option linter.unusedVariables false
set_option maxRecDepth 100000
namespace Go.Proofs.Big
open Go Go.Sx Go.Proofs
variable [bW]
def Eo(n:Nat)(l:Ω)(f:Nat->Int):Prop:=l.length<=n/\∃k m:Int,0<k/\0<m/\∀i,i<n->k*l.getD i 0=m*f i
theorem Eo.aW{n:Nat}{l:Ω}{f:Nat->Int}(h:Eo n l f){i:Nat}(b:i<n):Big.aW (l.getD i 0)=Big.aW (f i):=by
 obtain⟨_,k,m,c,hm,e⟩:=h;rw[<-ti (x:=l.getD i 0) c,J6,e i b,J6,ti hm]
theorem Eo.ne{n:Nat}{l:Ω}{f:Nat->Int}(h:Eo n l f){i:Nat}(b:i<n)(c:f i≠0):l.getD i 0≠0:=λe=>by
 have:=h.aW b;rw[e,gV]at this;exact c (ju.1 this.symm)
theorem getD_lt{l:Ω}{i:Nat}(h:l.getD i 0≠0):i<l.length:=by
 rcases Kv i l.length with b|b
 . exact b
 . exact absurd (RW b) h
theorem Eo.len{n:Nat}{l:Ω}{f:Nat->Int}(h:Eo (n+1) l f)(b:f n≠0):l.length=n+1:=by
 have:=getD_lt (h.ne (show n<n+1 by omega) b);have:=h.1;omega
theorem Eo.prim{n:Nat}{l:Ω}{f:Nat->Int}(h:Eo n l f):Eo n (ag l) f:=by
 obtain⟨b,k,m,d,hm,e⟩:=h;obtain⟨c,j,s⟩:=B3 l;refine⟨Jn (cN l) b,k*c,m,Je d j,hm,λi o=>?_⟩;rw[<-e i o,s i,Jk]
theorem Eo.neg{n:Nat}{l:Ω}{f:Nat->Int}(h:Eo n l f):Eo n (dH l) λi=> -f i:=by
 obtain⟨b,k,m,c,hm,e⟩:=h;refine⟨by rw[jz];exact b,k,m,c,hm,λi d=>?_⟩;rw[aaY,JR,e i d,JR]
theorem Eo.of{n:Nat}{l:Ω}{f g:Nat->Int}(h:Eo n l f){a b:Int}(d:0<a)(j:0<b)(o:∀i,i<n->a*f i=b*g i):Eo n l g:=by
 obtain⟨p,k,m,q,hm,e⟩:=h;refine⟨p,a*k,m*b,Je d q,Je hm j,λi c=>?_⟩;rw[Jk,e i c,Jk,<-o i c]
 grind
def pv(e:Nat->Int):Nat->Int
 |0=>0
 |i+1=>e i
def aaq(t:Nat)(f e:Nat->Int)(i:Nat):Int:=e t*(e t*f i-f (t+1)*pv e i)-(e t*f t-f (t+1)*pv e t)*e i
theorem prem_scale{k m b e i d j o p c q x u y z A r B:Int}(C:k*i=m*x)(D:k*d=m*u)(w:k*j=m*y)(E:b*o=e*z)(F:b*p=e*A)(G:b*c=e*r)(H:b*q=e*B):
 k*(b*b)*(c*(c*i-d*p)-(c*j-d*q)*o)=m*(e*e)*(r*(r*x-u*A)-(r*y-u*B)*z):=by
 have h:k*(b*b)*(c*(c*i-d*p)-(c*j-d*q)*o)=(b*c)*((b*c)*(k*i)-(k*d)*(b*p))-((b*c)*(k*j)-(k*d)*(b*q))*(b*o):=by grind
 rw[h,C,D,w,E,F,G,H]
 grind
theorem stepA{b c x r d e α β:Int}(h:r*α-β*e=c*x)(i:d*α-β*b=0):b*(c*x)=α*(b*r-d*e):=by grind
theorem stepB{b c j z x e g α d i R m:Int}(h:x*d-i*g=j*z)(q:e*d-i*b=0)(o:b*(c*x)=α*R)(k:b*(c*e)=α*m):b*b*c*j*z=α*d*(b*R-m*g):=by
 have:b*b*c*j*z=b*c*(b*(j*z)):=by grind
 rw[this,<-h];have:b*c*(b*(x*d-i*g))=d*b*(b*(c*x))-b*c*(i*b)*g:=by grind
 have p:i*b=e*d:=by omega
 rw[this,p,o];have:b*c*(e*d)*g=d*(b*(c*e))*g:=by grind
 rw[this,k]
 grind
theorem qA_pos{l t:Int}(c:l≠0):0<qA l t:=by
 rw[L7];have e:((Int.gcd l t:Nat):Int)∣(l.natAbs:Int):=Int.dvd_natAbs.2 (Int.gcd_dvd_left ..);obtain⟨m,hm⟩:=e;have i:0<((Int.gcd l t:Nat):Int):=by
  have:=KO (b:=t) c;omega
 have j:0<(l.natAbs:Int):=by omega
 rw[hm]at j⊢;generalize ((Int.gcd l t:Nat):Int)=d at*
 rw[KL _ (by omega)];rcases(show m<=0\/0<m by omega)with h|h
 . have:=KD (Ju i) h;omega
 . exact h
theorem remS_step{r g:Ω}(e:0<g.length)(b:bw g≠0):∃k α β:Int,0<k/\0<α/\bw r*α-β*bw g=0/\∀i,i<r.length->(if r.length-g.length<=i then r.getD i 0*α-β*g.getD (i-(r.length-g.length)) 0 else r.getD i 0*α)=k*(ag (iX r g)).getD i 0:=by
 obtain⟨k,c,s⟩:=B3 (iX r g);refine⟨k,qA (bw g) (bw r),qB (bw g) (bw r),c,qA_pos b,qAB b,λi d=>?_⟩;rw[<-s i,AL r g d];unfold rF;rfl
theorem rem_one{t:Nat}{r g:Ω}(J:r.length=t+2)(K:g.length=t+1)(q:g.getD t 0≠0):∃k m:Int,0<k/\0<m/\(jT (t+2) r g).length<=t/\∀i,i<=t->k*(jT (t+2) r g).getD i 0=m*aaq t (λi=>r.getD i 0) (λi=>g.getD i 0) i:=by
 have b:bw g=g.getD t 0:=by rw[aN,K];rfl
 have z:bw r=r.getD (t+1) 0:=by rw[aN,J];rfl
 obtain⟨c,α,β,d,E,F,G⟩:=remS_step (r:=r) (g:=g) (by omega) (by rw[b];exact q);have t1:=qO (r:=r) (g:=g) (by omega) (by omega) (by rw[b];exact q);rw[pN,JB (by omega)];rw[b,z]at F;generalize ag (iX r g)=x at*
 have L:r.length-g.length=1:=by omega
 rw[L]at G;have u:∀i,i<=t->g.getD t 0*(c*x.getD i 0)=α*(g.getD t 0*r.getD i 0-r.getD (t+1) 0*pv (λi=>g.getD i 0) i):=λi w=>by
  have h:=G i (by omega);cases i with
  |zero=>
   rw[JA (by omega)]at h;show g.getD t 0*(c*x.getD 0 0)=α*(g.getD t 0*r.getD 0 0-r.getD (t+1) 0*0)
   rw[<-h];grind
  |succ i=>
   rw[JB (by omega),show i+1-1=i by omega]at h;exact stepA h F
 have j:0<g.getD t 0*g.getD t 0:=by
  rcases(show g.getD t 0<0\/0<g.getD t 0 by omega)with h|h
  . exact JY h h
  . exact Je h h
 by_cases y:g.length<=x.length
 . have A:x.length=t+1:=by omega
   rw[pN,JB y];obtain⟨M,N,R,B,C,o,p⟩:=remS_step (r:=x) (g:=g) (by omega) (by rw[b];exact q);have t2:=qO (r:=x) (g:=g) (by omega) y (by rw[b];exact q);have D:bw x=x.getD t 0:=by rw[aN,A];rfl
   rw[b,D]at o;rw[show x.length-g.length=0 by omega]at p;rw[mS (by omega)];refine⟨g.getD t 0*g.getD t 0*c*M,α*N,Je (Je j d) B,Je E C,by omega,λi w=>?_⟩;have h:=p i (by omega);rw[JB (by omega),Xf]at h;exact stepB h o (u i w) (u t (J1 _))
 . rw[mS (by omega)];refine⟨g.getD t 0*g.getD t 0*c,α,Je j d,E,by omega,λi w=>?_⟩;have H:=u t (J1 _);rw[RW (l:=x) (i:=t) (by omega)]at H;have O:g.getD t 0*r.getD t 0-r.getD (t+1) 0*pv (λi=>g.getD i 0) t=0:=by
    have y:α*(g.getD t 0*r.getD t 0-r.getD (t+1) 0*pv (λi=>g.getD i 0) t)=0:=by rw[<-H];simp
    rcases JW.1 y with h|h
    . omega
    . exact h
   show _=α*(g.getD t 0*(g.getD t 0*r.getD i 0-r.getD (t+1) 0*pv (λi=>g.getD i 0) i)-(g.getD t 0*r.getD t 0-r.getD (t+1) 0*pv (λi=>g.getD i 0) t)*g.getD i 0)
   rw[O];have:=u i w;have e:g.getD t 0*g.getD t 0*c*x.getD i 0=g.getD t 0*(g.getD t 0*(c*x.getD i 0)):=by grind
   rw[e,this]
   grind
theorem CH{t:Nat}{r g:Ω}{f e:Nat->Int}(o:Eo (t+2) r f)(h:Eo (t+1) g e)(z:f (t+1)≠0)(q:e t≠0):Eo t (dh r g) (aaq t f e):=by
 have o:=o.prim;have h:=h.prim;have u:=o.len z;have A:=h.len q;have B:=h.ne (show t<t+1 by omega) q;have C:dh r g=jT (t+2) (ag r) (ag g):=by unfold dh;rw[u]
 rw[C];obtain⟨k,m,D,hm,E,F⟩:=rem_one u A B;obtain⟨_,a,b,G,H,p⟩:=o;obtain⟨_,c,d,w,x,sg⟩:=h;refine⟨E,k*(a*(c*c)),m*(b*(d*d)),Je D (Je G (Je w w)),Je hm (Je H (Je x x)),λi M=>?_⟩;have y:∀j,j<=t->c*pv (λi=>(ag g).getD i 0) j=d*pv e j:=λj N=>by
  cases j with
  |zero=>show c*0=d*0;simp
  |succ j=>exact sg j (by omega)
 have key:=prem_scale (p i (by omega)) (p (t+1) (by omega)) (p t (by omega)) (sg i (by omega)) (y i (by omega)) (sg t (by omega)) (y t (J1 _));have J:=F i (by omega);have K:k*(a*(c*c))*(jT (t+2) (ag r) (ag g)).getD i 0=a*(c*c)*(k*(jT (t+2) (ag r) (ag g)).getD i 0):=by grind
 rw[K,J];have L:a*(c*c)*(m*aaq t (λi=>(ag r).getD i 0) (λi=>(ag g).getD i 0) i)=m*(a*(c*c)*aaq t (λi=>(ag r).getD i 0) (λi=>(ag g).getD i 0) i):=by grind
 rw[L];unfold aaq;rw[key]
 grind
def mM(a w h:Int):Int:=4*h*a+w*w
def q0f(a w h:Int):Nat->Int
 |0=>a*a-10000|1=>2*(a*w)|2=>w*w-2*(a*h)|3=> -(2*(w*h))|4=>h*h|_=>0
def q1f(a w h:Int):Nat->Int
 |0=>2*(a*w)|1=>2*(w*w-2*(a*h))|2=> -(6*(w*h))|3=>4*(h*h)|_=>0
def q2f(a w h:Int):Nat->Int
 |0=>40000*h-mM a w h*a|1=> -(mM a w h*w)|2=>mM a w h*h|_=>0
def q3f(w h:Int):Nat->Int
 |0=> -w|1=>2*h|_=>0
structure Arc (a w h : Int) : Prop where
 h1 : 1 <= h
 a0 : 100 <= a
 nd : 400 * h < mM a w h
section
variable {a w h : Int} (A : Arc a w h)
include A
theorem Arc.m0:0<mM a w h:=by have:=A.nd;have:=A.h1;omega
theorem Arc.hh:0<h:=by have:=A.h1;omega
theorem rem1(i:Nat)(b:i<3):aaq 3 (q0f a w h) (q1f a w h) i=4*(h*h*h)* -(q2f a w h i):=by
 rcases(show i=0\/i=1\/i=2 by omega)with rfl|rfl|rfl<;>simp only[aaq,pv,q0f,q1f,q2f,mM]<;>grind
theorem rem2(i:Nat)(b:i<2):aaq 2 (q1f a w h) (q2f a w h) i=80000*(mM a w h*(h*h*h))* -(q3f w h i):=by
 rcases(show i=0\/i=1 by omega)with rfl|rfl<;>simp only[aaq,pv,q1f,q2f,q3f,mM]<;>grind
theorem rem2'(i:Nat)(b:i<2):aaq 2 (q1f a w h) (λi=> -(q2f a w h i)) i=80000*(mM a w h*(h*h*h))* -(q3f w h i):=by
 rcases(show i=0\/i=1 by omega)with rfl|rfl<;>simp only[aaq,pv,q1f,q2f,q3f,mM]<;>grind
theorem rem3:aaq 1 (q2f a w h) (q3f w h) 0= -(h*(mM a w h*mM a w h-160000*(h*h))):=by
 simp only[aaq,pv,q2f,q3f,mM];grind
theorem rem3':aaq 1 (λi=> -(q2f a w h i)) (λi=> -(q3f w h i)) 0=h*(mM a w h*mM a w h-160000*(h*h)):=by
 simp only[aaq,pv,q2f,q3f,mM];grind
theorem Arc.top:0<h*(mM a w h*mM a w h-160000*(h*h)):=by
 have b:=A.hh;have hm:=A.nd;refine Je b ?_;have c:(400*h)*(400*h)<mM a w h*mM a w h:=by
  have d:(400*h)*(400*h)<(400*h)*mM a w h:=KK hm (by omega);have i:(400*h)*mM a w h<mM a w h*mM a w h:=X8 hm A.m0;omega
 have e:(400*h)*(400*h)=160000*(h*h):=by grind
 omega
theorem Arc.h3:0<4*(h*h*h)/\0<80000*(mM a w h*(h*h*h)):=by
 have b:=A.hh;have:=Je (Je b b) b;have:=Je A.m0 this;omega
theorem Arc.tops:q0f a w h 4≠0/\q1f a w h 3≠0/\q2f a w h 2≠0/\q3f w h 1≠0:=by
 have b:=A.hh;have c:=Je b b;have d:=Je A.m0 b;refine⟨?_,?_,?_,?_⟩<;>simp only[q0f,q1f,q2f,q3f]<;>omega
end
def Prq(p:Ω)(a w h:Int):Prop:=Eo 5 p (q0f a w h)\/Eo 5 p λi=> -(q0f a w h i)
theorem pp_prq{p:Ω}{a w h:Int}(A:Arc a w h)(d:Prq p a w h):Eo 5 (eZ p) (q0f a w h):=by
 have k:=A.hh;have o:0<q0f a w h 4:=Je k k;unfold eZ iN;rcases d with d|d
 . have c:=d.prim;have j:=c.len A.tops.1;have e:=c.aW (show 4<5 by omega);rw[jj o]at e;rw[j,JA (by
    intro m;rw[show 4+1-1=4 from rfl]at m;rw[gH m]at e;omega)]
   exact c
 . have c:=d.prim;have j:=c.len (n:=4) (by show-(q0f a w h 4)≠0;omega);have e:=c.aW (show 4<5 by omega);rw[gH (show-(q0f a w h 4)<0 by omega)]at e;rw[j,JB (by
    rw[show 4+1-1=4 from rfl];rcases sgn3 ((ag p).getD 4 0)with⟨f1,f2⟩|⟨f1,f2⟩|⟨f1,f2⟩
    . exact f1
    . omega
    . omega)]
   refine c.neg.of (a:=1) (b:=1) (by omega) (by omega) λi _=>?_
   show 1* -(-(q0f a w h i))=1*q0f a w h i
   omega
theorem der_prp{F:Ω}{a w h:Int}(A:Arc a w h)(b:Eo 5 F (q0f a w h)):Eo 4 (aX F) (q1f a w h):=by
 have d:=b.len A.tops.1;have j:=b.ne (show 4<5 by omega) A.tops.1;have o:tl F=5:=by rw[<-bn];exact trim_len d j
 have e:lW F (tl F-1)=[F.getD 1 0*1,F.getD 2 0*2,F.getD 3 0*3,F.getD 4 0*4]:=by rw[o];unfold lW;rfl
 have p:ae (lW F (tl F-1))=lW F (tl F-1):=by
  refine iP (.inr ?_);rw[e,aN];show F.getD 4 0*4≠0
  omega
 unfold aX;rw[p,e];obtain⟨_,k,m,q,hm,s⟩:=b;refine⟨by simp,k,m,q,hm,λi y=>?_⟩;have c:=s 1 (by omega);have r:=s 2 (by omega);have u:=s 3 (by omega);have x:=s 4 (by omega);simp only[q0f]at c r u x;rcases(show i=0\/i=1\/i=2\/i=3 by omega)with rfl|rfl|rfl|rfl
 . show k*(F.getD 1 0*1)=m*(2*(a*w));rw[Ke];exact c
 . show k*(F.getD 2 0*2)=m*(2*(w*w-2*(a*h)));grind
 . show k*(F.getD 3 0*3)=m* -(6*(w*h));grind
 . show k*(F.getD 4 0*4)=m*(4*(h*h));grind
structure ChQ (l : List (List Int)) (a w h : Int) : Prop where
 ex : ∃ F B C D E, l = [F, B, C, D, E] /\ Eo 5 F (q0f a w h) /\ Eo 4 B (q1f a w h) /\ Eo 3 C (q2f a w h) /\ Eo 2 D (q3f w h) /\ Eo 1 E fun _ => 1
theorem com_prp{F:Ω}{a w h:Int}(A:Arc a w h)(p:Eo 5 F (q0f a w h)):(eU F (aX F)).length=1:=by
 obtain⟨t0,t1,t2,t3⟩:=A.tops;obtain⟨r,u⟩:=A.h3;have C:=A.hh;have x:=p.prim;have j:=(der_prp A p).prim;have y:=j.len t1;generalize k:ag (aX F)=B at*
 generalize m:ag F=c at*
 have o:Eo 3 (dh c B) λi=> -(q2f a w h i):=(CH x j t0 t1).of (a:=1) (b:=4*(h*h*h)) (by omega) r λi d=>by rw[rem1 A i d];omega
 have D:=o.len (n:=2) (show-(q2f a w h 2)≠0 by omega);have q:Eo 2 (dh B (dh c B)) λi=> -(q3f w h i):=(CH j o t1 (show-(q2f a w h 2)≠0 by omega)).of (a:=1) (b:=80000*(mM a w h*(h*h*h))) (by omega) u λi d=>by rw[rem2' A i d];omega
 have E:=q.len (n:=1) (show-(q3f w h 1)≠0 by omega);have z:Eo 1 (dh (dh c B) (dh B (dh c B))) λ_=>1:=(CH o q (show-(q2f a w h 2)≠0 by omega) (show-(q3f w h 1)≠0 by omega)).of (a:=1) (b:=h*(mM a w h*mM a w h-160000*(h*h))) (by omega) A.top λi d=>by
  rw[show i=0 by omega,rem3' A];omega
 have le:=z.len (n:=0) (by decide);have e:eU F (aX F)=iN (lT B.length c B):=by unfold eU;rw[m,k]
 rw[e,iH,y,jb,JB (by omega),jb,JB (by omega),jb,JB (by omega),jb,JB (by omega),mG];exact le
theorem aa2{p:Ω}{a w h:Int}(A:Arc a w h)(q:Prq p a w h):bE p=eZ p/\Eo 5 (eZ p) (q0f a w h)/\ChQ (bC p) a w h/\(bC p).getD 0 []=eZ p:=by
 obtain⟨t0,t1,t2,t3⟩:=A.tops;obtain⟨r,u⟩:=A.h3;have J:=A.hh;have c:=pp_prq A q;have K:=c.len t0;have k:bE p=eZ p:=by rw[freeL_def,JA (by omega),JB (by rw[com_prp A c];omega)]
 have x:wB p=ag (aX (eZ p)):=by unfold wB;rw[k]
 have d:=(der_prp A c).prim;have y:=d.len t1;refine⟨k,c,?_⟩;rw[chainL_def,k,x,JA (by omega)];generalize eZ p=F at*
 generalize ag (aX F)=B at*
 have e:Eo 3 (dH (dh F B)) (q2f a w h):=(CH c d t0 t1).neg.of (a:=1) (b:=4*(h*h*h)) (by omega) r λi j=>by
  show 1* -(aaq 3 (q0f a w h) (q1f a w h) i)=_
  rw[rem1 A i j,K8,JR,Int.neg_neg]
 have L:=e.len t2;generalize z:dH (dh F B)=C at*
 have m:Eo 2 (dH (dh B C)) (q3f w h):=(CH d e t1 t2).neg.of (a:=1) (b:=80000*(mM a w h*(h*h*h))) (by omega) u λi j=>by
  show 1* -(aaq 2 (q1f a w h) (q2f a w h) i)=_
  rw[rem2 A i j,K8,JR,Int.neg_neg]
 have M:=m.len t3;generalize G:dH (dh B C)=D at*
 have o:Eo 1 (dH (dh C D)) λ_=>1:=(CH e m t2 t3).neg.of (a:=1) (b:=h*(mM a w h*mM a w h-160000*(h*h))) (by omega) A.top λi j=>by
  show 1* -(aaq 1 (q2f a w h) (q3f w h) i)=_
  rw[show i=0 by omega,rem3 A];omega
 have le:=o.len (n:=0) (by decide);generalize H:dH (dh C D)=E at*
 rw[y,rN,JA (by omega),z,rN,JA (by omega),G,rN,JA (by omega),H,rN,JA (by omega),zh];exact⟨⟨F,B,C,D,E,rfl,c,d,e,m,o⟩,rfl⟩
def yv(a w h n:Int)(e:Nat):Int:=a*(2^e*2^e)+w*n*2^e-h*n*n
def dv(w h n:Int)(e:Nat):Int:=w*2^e-2*h*n
def cv(e:Nat):Int:=100*(2^e*2^e)
theorem aaK(e:Nat):0<cv e:=by unfold cv;have:=Je (gg e) (gg e);omega
theorem hor5(b c d h i n:Int)(e:Nat):cY [b,c,d,h,i] (n,(e:Int))=b*(2^e*2^e*(2^e*2^e))+c*n*(2^e*2^e*2^e)+d*n*n*(2^e*2^e)+h*n*n*n*2^e+i*n*n*n*n:=by
 rw[gU,gU,gU,gU,gU,nZ];simp only[Jc,Kf,K7,Nat.mul_zero,Kc,Jg,JU];rw[show e*(1+1)=e+e by omega,show e*(1+1+1)=e+e+e by omega,show e*(1+1+1+1)=e+e+(e+e) by omega];simp only[om];generalize (2:Int)^e=E
 grind
theorem hor4(b c d h n:Int)(e:Nat):cY [b,c,d,h] (n,(e:Int))=b*(2^e*2^e*2^e)+c*n*(2^e*2^e)+d*n*n*2^e+h*n*n*n:=by
 rw[gU,gU,gU,gU,nZ];simp only[Jc,Kf,K7,Nat.mul_zero,Kc,Jg,JU];rw[show e*(1+1)=e+e by omega,show e*(1+1+1)=e+e+e by omega];simp only[om];generalize (2:Int)^e=E
 grind
theorem list4{l:Ω}(h:l.length=4):l=[l.getD 0 0,l.getD 1 0,l.getD 2 0,l.getD 3 0]:=by
 match l,h with
 |[x,y,z,u],_=>rfl
theorem list5{l:Ω}(h:l.length=5):l=[l.getD 0 0,l.getD 1 0,l.getD 2 0,l.getD 3 0,l.getD 4 0]:=by
 match l,h with
 |[x,y,z,u,v],_=>rfl
theorem sgn_prp{x y k m:Int}(b:0<k)(c:0<m)(h:k*x=m*y):aW x=aW y:=by
 rw[<-ti (x:=x) b,J6,h,J6,ti c]
theorem prp_hor5{l:Ω}{f:Nat->Int}{n:Int}{e:Nat}{y:Int×Int}(b:l.length=5)(c:Eo 5 l f)(h:At y n e):aW (cY l y)=aW (cY [f 0,f 1,f 2,f 3,f 4] (n,(e:Int))):=by
 obtain⟨_,k,m,d,hm,s⟩:=c;have i:=s 0 (by omega);have j:=s 1 (by omega);have o:=s 2 (by omega);have p:=s 3 (by omega);have q:=s 4 (by omega);rw[h.horS,list5 b,hor5,hor5];refine sgn_prp d hm ?_;generalize (2:Int)^e=E
 grind
theorem prp_hor4{l:Ω}{f:Nat->Int}{n:Int}{e:Nat}{y:Int×Int}(b:l.length=4)(c:Eo 4 l f)(h:At y n e):aW (cY l y)=aW (cY [f 0,f 1,f 2,f 3] (n,(e:Int))):=by
 obtain⟨_,k,m,d,hm,s⟩:=c;have i:=s 0 (by omega);have j:=s 1 (by omega);have o:=s 2 (by omega);have p:=s 3 (by omega);rw[h.horS,list4 b,hor4,hor4];refine sgn_prp d hm ?_;generalize (2:Int)^e=E
 grind
theorem prp_hor3{l:Ω}{f:Nat->Int}{n:Int}{e:Nat}{y:Int×Int}(b:l.length=3)(c:Eo 3 l f)(h:At y n e):aW (cY l y)=aW (cY [f 0,f 1,f 2] (n,(e:Int))):=by
 obtain⟨_,k,m,d,hm,s⟩:=c;have i:=s 0 (by omega);have j:=s 1 (by omega);have o:=s 2 (by omega);rw[h.horS,list3 b,hor3,hor3];refine sgn_prp d hm ?_;generalize (2:Int)^e=E
 grind
theorem prp_hor2{l:Ω}{f:Nat->Int}{n:Int}{e:Nat}{y:Int×Int}(b:l.length=2)(c:Eo 2 l f)(h:At y n e):aW (cY l y)=aW (cY [f 0,f 1] (n,(e:Int))):=by
 obtain⟨_,k,m,d,hm,s⟩:=c;have i:=s 0 (by omega);have j:=s 1 (by omega);rw[h.horS,list2 b,hor2,hor2];refine sgn_prp d hm ?_;generalize (2:Int)^e=E
 grind
section
variable {a w h : Int} {n : Int} {e : Nat}
theorem dv_sq:dv w h n e*dv w h n e=mM a w h*(2^e*2^e)-4*h*yv a w h n e:=by unfold dv yv mM;grind
theorem yv_up(k:Nat):yv a w h (n*2^k) (e+k)=yv a w h n e*(2^k*2^k):=by unfold yv;rw[om];grind
theorem dv_up(k:Nat):dv w h (n*2^k) (e+k)=dv w h n e*2^k:=by unfold dv;rw[om];grind
theorem cv_up(k:Nat):cv (e+k)=cv e*(2^k*2^k):=by unfold cv;rw[om];grind
theorem yv_diff(m:Int):yv a w h m e-yv a w h n e=(m-n)*(w*2^e-h*(m+n)):=by unfold yv;grind
theorem horF{l:Ω}{y:Int×Int}(A:Arc a w h)(b:Eo 5 l (q0f a w h))(c:At y n e):aW (cY l y)=aW ((yv a w h n e-cv e)*(yv a w h n e+cv e)):=by
 rw[prp_hor5 (b.len A.tops.1) b c,hor5]
 congr 1
 simp only[q0f,yv,cv];generalize (2:Int)^e=E
 grind
theorem horB{l:Ω}{y:Int×Int}(A:Arc a w h)(b:Eo 4 l (q1f a w h))(c:At y n e):aW (cY l y)=aW (yv a w h n e*dv w h n e*2):=by
 rw[prp_hor4 (b.len A.tops.2.1) b c,hor4]
 congr 1
 simp only[q1f,yv,dv];generalize (2:Int)^e=E
 grind
theorem horC{l:Ω}{y:Int×Int}(A:Arc a w h)(b:Eo 3 l (q2f a w h))(c:At y n e):aW (cY l y)=aW (400*h*cv e-mM a w h*yv a w h n e):=by
 rw[prp_hor3 (b.len A.tops.2.2.1) b c,hor3]
 congr 1
 simp only[q2f,yv,cv];generalize (2:Int)^e=E
 grind
theorem horD{l:Ω}{y:Int×Int}(A:Arc a w h)(b:Eo 2 l (q3f w h))(c:At y n e):aW (cY l y)=aW (-(dv w h n e)):=by
 rw[prp_hor2 (b.len A.tops.2.2.2) b c,hor2]
 congr 1
 simp only[q3f,dv];generalize (2:Int)^e=E
 grind
theorem horE{l:Ω}{y:Int×Int}(b:Eo 1 l λ_=>1)(c:At y n e):aW (cY l y)=1:=by
 have d:=b.len (n:=0) (by decide);have:=b.aW (show 0<1 by omega);rw[c.horS,list1 d,hor1,this];exact jj (by omega)
def xh(a w h n:Int)(e:Nat):Int:=if cv e<yv a w h n e\/(yv a w h n e=cv e/\0<dv w h n e)then 2 else if-cv e<yv a w h n e then 1 else 0
theorem aah(k:Nat):xh a w h (n*2^k) (e+k)=xh a w h n e:=by
 have b:=Je (gg k) (gg k);have c:cv (e+k)<yv a w h (n*2^k) (e+k)↔cv e<yv a w h n e:=by
  rw[yv_up,cv_up];exact⟨λh=>KH h (Ju b),λh=>X8 h b⟩
 have d:yv a w h (n*2^k) (e+k)=cv (e+k)↔yv a w h n e=cv e:=by
  rw[yv_up,cv_up];exact⟨λh=>Int.eq_of_mul_eq_mul_right (by omega) h,λh=>by rw[h]⟩
 have i:0<dv w h (n*2^k) (e+k)↔0<dv w h n e:=by rw[dv_up];exact pos_mul (gg k)
 have j: -cv (e+k)<yv a w h (n*2^k) (e+k)↔ -cv e<yv a w h n e:=by
  rw[yv_up,cv_up,<-Int.neg_mul];exact⟨λh=>KH h (Ju b),λh=>X8 h b⟩
 unfold xh;simp only[c,d,i,j]
theorem B6:xh a w h n e=0\/xh a w h n e=1\/xh a w h n e=2:=by
 unfold xh;split
 . exact .inr (.inr rfl)
 . split
   . exact .inr (.inl rfl)
   . exact .inl rfl
theorem aax:xh a w h n e=2↔cv e<yv a w h n e\/(yv a w h n e=cv e/\0<dv w h n e):=by
 unfold xh;split
 . simp_all
 . rename_i b;split<;>simp[b]
theorem aaG:xh a w h n e=1↔ ¬(cv e<yv a w h n e\/(yv a w h n e=cv e/\0<dv w h n e))/\ -cv e<yv a w h n e:=by
 unfold xh;split
 . rename_i b;simp[b]
 . rename_i b;split
   . rename_i c;simp[b,c]
   . rename_i c;simp[b,c]
theorem aaH:xh a w h n e=0↔yv a w h n e<= -cv e:=by
 have:=aaK e;unfold xh;split
 . rename_i b;simp;omega
 . split<;>simp<;>omega
section
variable (A : Arc a w h) (n0 : 0 <= n)
include A n0
theorem dv_ne(b:yv a w h n e<=cv e):dv w h n e≠0:=λc=>by
 have s:=dv_sq (a:=a) (w:=w) (h:=h) (n:=n) (e:=e);rw[c]at s;have i:=A.hh;have d:=Je (gg e) (gg e);have j:4*h*yv a w h n e<=4*h*cv e:=Jt b (by omega);have k:(400*h)*(2^e*2^e)<mM a w h*(2^e*2^e):=X8 A.nd d;have m:4*h*cv e=(400*h)*(2^e*2^e):=by unfold cv;grind
 omega
theorem dv_up_ge(b:0<=dv w h n e):a*(2^e*2^e)<=yv a w h n e/\(0<n->0<dv w h n e->a*(2^e*2^e)<yv a w h n e):=by
 have d:=A.hh;have i:yv a w h n e=a*(2^e*2^e)+n*(w*2^e-h*n):=by unfold yv;grind
 have j:0<=h*n:=Ja (by omega) n0;have k:dv w h n e=w*2^e-2*(h*n):=by unfold dv;grind
 constructor
 . have:=Ja n0 (show 0<=w*2^e-h*n by omega);omega
 . intro c b;have:=Je c (show 0<w*2^e-h*n by omega);omega
theorem a_ge:cv e<=a*(2^e*2^e):=by
 unfold cv;exact Jh A.a0 (Ju (Je (gg e) (gg e)))
theorem dv_neg(c:yv a w h n e<cv e):dv w h n e<0:=by
 rcases(show dv w h n e<0\/0<=dv w h n e by omega)with b|b
 . exact b
 . have:=(dv_up_ge A n0 b).1;have:=a_ge (e:=e) A n0;omega
theorem dv_neg'(d:yv a w h n e=cv e)(c:0<n):dv w h n e<0:=by
 have:=dv_ne A n0 (e:=e) (by omega);rcases(show dv w h n e<0\/0<dv w h n e by omega)with b|b
 . exact b
 . have:=(dv_up_ge A n0 (by omega)).2 c b;have:=a_ge (e:=e) A n0;omega
theorem yv_fall{m:Int}(i:dv w h n e<0)(b:n<m):yv a w h m e<yv a w h n e:=by
 have d:=yv_diff (a:=a) (w:=w) (h:=h) (n:=n) (e:=e) m;have j:=A.hh;have k:dv w h n e=w*2^e-2*(h*n):=by unfold dv;grind
 have o:h*n<h*m:=KK b (by omega);have c:w*2^e-h*(m+n)<0:=by rw[Kg];omega
 have:=KI (show 0<m-n by omega) c;omega
theorem xv{m:Int}(d:xh a w h n e<=1)(i:n<m):yv a w h m e<yv a w h n e/\yv a w h n e<=cv e:=by
 have o: ¬(cv e<yv a w h n e\/(yv a w h n e=cv e/\0<dv w h n e)):=λh=>by rw[aax.2 h]at d;omega
 have b:yv a w h n e<=cv e:=by omega
 have j:=dv_ne A n0 b;have k:dv w h n e<0:=by
  rcases(show yv a w h n e<cv e\/yv a w h n e=cv e by omega)with c|c
  . exact dv_neg A n0 c
  . omega
 exact⟨yv_fall A n0 k i,b⟩
theorem cntQ_mono{m:Int}(d:n<m):xh a w h m e<=xh a w h n e:=by
 have b:=B6 (a:=a) (w:=w) (h:=h) (n:=n) (e:=e);have c:=B6 (a:=a) (w:=w) (h:=h) (n:=m) (e:=e);rcases b with b|b|b
 . obtain⟨f1,f2⟩:=xv A n0 (e:=e) (by omega) d;have:=aaH.1 b;have:=(aaH (a:=a) (w:=w) (h:=h) (n:=m) (e:=e)).2 (by omega);omega
 . obtain⟨f1,f2⟩:=xv A n0 (e:=e) (by omega) d;rcases c with c|c|c
   . omega
   . omega
   . have:=aax.1 c;omega
 . omega
theorem chg_Q{l:List Ω}{y:Int×Int}(q:ChQ l a w h)(b:At y n e):qb l y=xh a w h n e:=by
 obtain⟨F,B,C,D,E,rfl,r,u,x,z,G⟩:=q.ex;have H:=horF A r b;have J:=horB A u b;have K:=horC A x b;have L:=horD A z b;have M:=horE G b;have m:=aaK e;have X:=A.hh;have hm:=A.m0;have low:cv e<=yv a w h n e->aW (400*h*cv e-mM a w h*yv a w h n e)= -1:=λb=>gH (by
  have N:mM a w h*cv e<=mM a w h*yv a w h n e:=Jt b (by omega);have O:(400*h)*cv e<mM a w h*cv e:=X8 A.nd m;omega)
 have high:yv a w h n e<=0->aW (400*h*cv e-mM a w h*yv a w h n e)=1:=λb=>jj (by
  have N:mM a w h*yv a w h n e<=0:=KD (by omega) b;have O:0<(400*h)*cv e:=Je (by omega) m;omega)
 rw[tV,E6,E6,E6,E6,E6,ub,H,J,K,L,M];rcases(show cv e<yv a w h n e\/yv a w h n e=cv e\/(yv a w h n e<cv e/\ -cv e<yv a w h n e)\/yv a w h n e= -cv e\/yv a w h n e< -cv e by omega)with c|c|⟨c,j⟩|c|c
 . rw[aax.2 (.inl c),low (by omega),jj (Je (show 0<yv a w h n e-cv e by omega) (show 0<yv a w h n e+cv e by omega))];rcases sgn3 (dv w h n e)with⟨f1,f2⟩|⟨f1,f2⟩|⟨f1,f2⟩
   . rw[gH (show yv a w h n e*dv w h n e*2<0 by have:=KI (show 0<yv a w h n e by omega) f1;omega),jj (show 0< -(dv w h n e) by omega)];rfl
   . rw[f1];simp only[KA,JQ,Int.neg_zero,gV];rfl
   . rw[jj (show 0<yv a w h n e*dv w h n e*2 by have:=Je (show 0<yv a w h n e by omega) f1;omega),gH (show-(dv w h n e)<0 by omega)];rfl
 . have R:=dv_ne A n0 (e:=e) (by omega);rw[low (by omega),show yv a w h n e-cv e=0 by omega,JQ,gV];rcases(show dv w h n e<0\/0<dv w h n e by omega)with f1|f1
   . rw[aaG.2 ⟨by omega,by omega⟩,gH (show yv a w h n e*dv w h n e*2<0 by have:=KI (show 0<yv a w h n e by omega) f1;omega),jj (show 0< -(dv w h n e) by omega)];rfl
   . rw[aax.2 (.inr ⟨c,f1⟩),jj (show 0<yv a w h n e*dv w h n e*2 by have:=Je (show 0<yv a w h n e by omega) f1;omega),gH (show-(dv w h n e)<0 by omega)];rfl
 . have d:=dv_neg A n0 c;rw[aaG.2 ⟨by omega,j⟩,gH (KC (show yv a w h n e-cv e<0 by omega) (show 0<yv a w h n e+cv e by omega)),jj (show 0< -(dv w h n e) by omega)];rcases sgn3 (yv a w h n e)with⟨i,o⟩|⟨i,o⟩|⟨i,o⟩
   . rw[high (by omega),jj (show 0<yv a w h n e*dv w h n e*2 by have:=JY i d;omega)];rfl
   . rw[high (by omega),i];simp only[JQ,gV];rfl
   . rw[gH (show yv a w h n e*dv w h n e*2<0 by have:=KI i d;omega)];rcases sgn3 (400*h*cv e-mM a w h*yv a w h n e)with⟨p,k⟩|⟨p,k⟩|⟨p,k⟩<;>rw[k]<;>rfl
 . have d:=dv_neg A n0 (e:=e) (by omega);rw[aaH.2 (by omega),high (by omega),show yv a w h n e+cv e=0 by omega,KA,gV,jj (show 0< -(dv w h n e) by omega),jj (show 0<yv a w h n e*dv w h n e*2 by have:=JY (show yv a w h n e<0 by omega) d;omega)];rfl
 . have d:=dv_neg A n0 (e:=e) (by omega);rw[aaH.2 (by omega),high (by omega),jj (JY (show yv a w h n e-cv e<0 by omega) (show yv a w h n e+cv e<0 by omega)),jj (show 0< -(dv w h n e) by omega),jj (show 0<yv a w h n e*dv w h n e*2 by have:=JY (show yv a w h n e<0 by omega) d;omega)];rfl
end
end
end Go.Proofs.Big
namespace Go.Proofs.Big
open Go Go.Sx Go.Proofs
variable [bW]
def spd(w h:Int):Int:=2*h+(w.natAbs:Int)
structure CQ (a w h : Int) (lo hi : Int × Int) (n : Int) (e : Nat) (f t : Int) : Prop where
 lo : At lo n e
 hi : At hi (n + 1) e
 n0 : 0 <= n
 n1 : n + 1 <= 2 ^ e
 f : xh a w h n e = f
 t : xh a w h (n + 1) e = t
section
variable {a w h : Int} (A : Arc a w h)
include A
theorem CQ.left{b d:Int×Int}{n:Int}{e:Nat}{f t:Int}(c:CQ a w h b d n e f t):CQ a w h b (dj b d) (2*n) (e+1) f (xh a w h (2*n+1) (e+1)):=by
 have i:=c.lo.up 1;have j:=c.lo.mid c.hi;have k:=aah (a:=a) (w:=w) (h:=h) (n:=n) (e:=e) 1;rw[Kk,Kc,K8,J6]at i k;rw[show n+(n+1)=2*n+1 by omega]at j;have:=c.n0;have:=c.n1;exact⟨i,j,by omega,by rw[Kk];omega,by rw[k];exact c.f,rfl⟩
theorem CQ.right{d b:Int×Int}{n:Int}{e:Nat}{f t:Int}(c:CQ a w h d b n e f t):CQ a w h (dj d b) b (2*n+1) (e+1) (xh a w h (2*n+1) (e+1)) t:=by
 have i:=c.hi.up 1;have j:=c.lo.mid c.hi;have k:=aah (a:=a) (w:=w) (h:=h) (n:=n+1) (e:=e) 1;rw[Kk,Kc,K8,show(n+1)*2=2*n+1+1 by omega]at i k;rw[show n+(n+1)=2*n+1 by omega]at j;have:=c.n0;have:=c.n1;exact⟨j,i,by omega,by rw[Kk];omega,rfl,by rw[k];exact c.t⟩
theorem CQ.ord{b d:Int×Int}{n:Int}{e:Nat}{f t:Int}(c:CQ a w h b d n e f t):t<=f/\0<=t/\f<=2:=by
 have i:=cntQ_mono A c.n0 (e:=e) (show n<n+1 by omega);rw[c.f,c.t]at i;have j:=B6 (a:=a) (w:=w) (h:=h) (n:=n) (e:=e);have k:=B6 (a:=a) (w:=w) (h:=h) (n:=n+1) (e:=e);rw[c.f]at j;rw[c.t]at k;omega
theorem fall_le{n m:Int}{e:Nat}(c:0<=n)(i:n<=m)(j:m<=2^e):yv a w h n e-yv a w h m e<=(m-n)*(spd w h*2^e):=by
 have d:=yv_diff (a:=a) (w:=w) (h:=h) (n:=n) (e:=e) m;have k:=A.hh;have E:=gg e;have o:h*(m+n)<=h*(2*2^e):=Jt (by omega) (by omega);have p: -(w*2^e)<=(w.natAbs:Int)*2^e:=by
  rw[<-Int.neg_mul];exact Jh (by omega) (by omega)
 have b:h*(m+n)-w*2^e<=spd w h*2^e:=by
  have:spd w h*2^e=h*(2*2^e)+(w.natAbs:Int)*2^e:=by unfold spd;grind
  omega
 have q:(m-n)*(h*(m+n)-w*2^e)<=(m-n)*(spd w h*2^e):=Jt b (by omega);have r:(m-n)*(h*(m+n)-w*2^e)= -((m-n)*(w*2^e-h*(m+n))):=by rw[<-Int.mul_neg];congr 1;omega
 omega
theorem wide_q{n m k:Int}{e:Nat}(b:0<=n)(c:n<=m)(d:m<=2^e)(i:m-n<=k)(o:0<=k)(p:2^e*2^e<=yv a w h n e-yv a w h m e):2^e<=k*spd w h:=by
 have f:=fall_le A b c d;have E:=gg e;have j:0<=spd w h:=by have:=A.hh;unfold spd;omega
 have q:(m-n)*(spd w h*2^e)<=k*(spd w h*2^e):=Jh i (Ja j (by omega));have r:k*(spd w h*2^e)=(k*spd w h)*2^e:=by rw[Jk]
 exact KP (show 2^e*2^e<=(k*spd w h)*2^e by omega) E
theorem wide_20{n m k:Int}{e:Nat}(c:0<=n)(d:n<=m)(i:m<=2^e)(j:m-n<=k)(o:0<=k)(p:xh a w h n e=2)(b:xh a w h m e=0):2^e<=k*spd w h:=by
 refine wide_q A c d i j o ?_;have q:=aax.1 p;have r:=aaH.1 b;have:cv e=100*(2^e*2^e):=rfl;have:=Je (gg e) (gg e);omega
theorem CQ.deep{b d:Int×Int}{n:Int}{e:Nat}(c:CQ a w h b d n e 2 0):2^e<=spd w h:=by
 have:=wide_20 A c.n0 (show n<=n+1 by omega) c.n1 (k:=1) (by omega) (by omega) c.f c.t;omega
def PairQ(a w h:Int)(F:Ω)(l:List ao):Prop:=∃x m y n e,l=[(F,x,m),(F,m,y)]/\CQ a w h x m n e 2 1/\CQ a w h m y (n+1) e 1 0
theorem JD{l:List Ω}(m:ChQ l a w h)(z:Shrt l)(J:spd w h<2^20):∀{k:Nat}{b d:Int×Int}{n:Int}{e:Nat}{f t:Int},CQ a w h b d n e f t->spd w h<2^(e+k)->e<=21->
 CA k l b d f t/\(bJ k l b d f t).length=(f-t).toNat/\(f-t=1->bJ k l b d f t=[(l.getD 0 [],b,d)])/\(f-t=2->PairQ a w h (l.getD 0 []) (bJ k l b d f t))
 |0,b,d,n,e,f,t,c,r,he=>by
  have ho:=c.ord A;have u:f-t≠2:=λu=>by
   have h':CQ a w h b d n e 2 0:=by
    have G:f=2:=by omega
    have H:t=0:=by omega
    rw[G,H]at c;exact c
   have:=h'.deep A;rw[Jv]at r;omega
  have i:0<l.length:=by obtain⟨F,B,C,D,E,rfl,_⟩:=m.ex;simp
  refine⟨Tj.2 ⟨i,by omega,by omega⟩,?_,λK=>?_,λh=>absurd h u⟩
  . rw[zA];split
    . rename_i j;rw[j];rfl
    . rw[show f-t=1 by omega];rfl
  . rw[zA,JA (by omega)]
 |k+1,b,d,n,e,f,t,c,r,he=>by
  have ho:=c.ord A;have i:0<l.length:=by obtain⟨F,B,C,D,E,rfl,_⟩:=m.ex;simp
  by_cases u:f-t=2
  . have G:f=2:=by omega
    have H:t=0:=by omega
    subst G;subst H;have hd:=c.deep A;have ac:e<20:=by
     rcases(show e<20\/20<=e by omega)with h|h
     . exact h
     . have:=HF h;omega
    have L:=c.left A;have R:=c.right A;have n0:=c.n0;have n1:=c.n1;have hm:qb l (dj b d)=xh a w h (2*n+1) (e+1):=chg_Q A (by omega) m L.hi;obtain⟨M,x,N,O⟩:=JD m z J (k:=k) L (by rw[show e+1+k=e+(k+1) by omega];exact r) (by omega);obtain⟨X,y,Z,r4⟩:=JD m z J (k:=k) R (by rw[show e+1+k=e+(k+1) by omega];exact r) (by omega);rw[<-hm]at M x N O X y Z r4;have ol:=L.ord A;rw[<-hm]at ol;have o:=L.n1;have p:=z.pre L.hi (by omega) o (by omega)
    have hA:At (dj b d) (2*n+1) (e+1):=L.hi;have hy:=hA.sz (by omega) o;refine⟨BQ.2 ⟨i,by omega,.inr (.inr ⟨c.lo.dp n0 (by omega) (by omega),c.hi.dp (by omega) n1 (by omega),by omega,p,M,X,by rw[x,y];omega⟩)⟩,?_,λh=>by omega,λ_=>?_⟩
    . rw[jF,JA (by omega),JA (by omega),Y0,x,y];omega
    . rw[jF,JA (by omega),JA (by omega)];generalize ad:qb l (dj b d)=q at*
      rcases(show q=0\/q=1\/q=2 by omega)with j|j|j
      . subst j;rw[Kr (l:=bJ k l (dj b d) d 0 0) (by rw[y];rfl),Kw];exact O (by omega)
      . subst j;rw[N (by omega),Z (by omega)];rw[<-hm]at L R;exact⟨b,dj b d,d,2*n,e+1,rfl,L,R⟩
      . subst j;rw[Kr (l:=bJ k l b (dj b d) 2 2) (by rw[x];rfl),Jj];exact r4 (by omega)
  . refine⟨BQ.2 ⟨i,by omega,by omega⟩,?_,λK=>?_,λh=>absurd h u⟩
    . rw[jF];split
      . rename_i j;rw[j];rfl
      . rw[JB (by omega),show f-t=1 by omega];rfl
    . rw[jF,JA (by omega),JB K]
end
structure NQ (a w h : Int) (q : ao) (n : Int) (e : Nat) (f t : Int) : Prop where
 F : Eo 5 q.1 (q0f a w h)
 cell : CQ a w h q.2.1 q.2.2 n e f t
theorem NQ.iv{a w h:Int}{q:ao}{n:Int}{e:Nat}{f t:Int}(c:NQ a w h q n e f t):Iv q n e:=⟨c.cell.lo,c.cell.hi,c.cell.n0,c.cell.n1⟩
section
variable {a w h : Int} (A : Arc a w h)
include A
theorem sF_pos{n:Int}{e:Nat}(b:cv e<yv a w h n e):aW ((yv a w h n e-cv e)*(yv a w h n e+cv e))=1:=by
 have:=aaK e;exact jj (Je (by omega) (by omega))
theorem aat{n:Int}{e:Nat}(b:yv a w h n e<cv e)(c: -cv e<yv a w h n e):aW ((yv a w h n e-cv e)*(yv a w h n e+cv e))= -1:=gH (KC (by omega) (by omega))
theorem sF_low{n:Int}{e:Nat}(b:yv a w h n e< -cv e):aW ((yv a w h n e-cv e)*(yv a w h n e+cv e))=1:=by
 have:=aaK e;exact jj (JY (by omega) (by omega))
theorem sF_top{n:Int}{e:Nat}(b:yv a w h n e=cv e):aW ((yv a w h n e-cv e)*(yv a w h n e+cv e))=0:=by rw[b,Int.sub_self,JQ,gV]
theorem sF_bot{n:Int}{e:Nat}(b:yv a w h n e= -cv e):aW ((yv a w h n e-cv e)*(yv a w h n e+cv e))=0:=by rw[b,show-cv e+cv e=0 by omega,KA,gV]
theorem NQ.step{q:ao}{n:Int}{e:Nat}{f t:Int}(c:NQ a w h q n e f t)(x:(f=2/\t=1)\/(f=1/\t=0)):∃m,NQ a w h (ai q) m (e+1) f t/\2*n<=m/\m<=2*n+1:=by
 have L:=c.cell.left A;have R:=c.cell.right A;have K:=L.ord A;have M:=R.ord A;have N:=c.cell.n0;have C:=c.iv.side;have H:aW (cY q.1 (dj q.2.1 q.2.2))=aW ((yv a w h (2*n+1) (e+1)-cv (e+1))*(yv a w h (2*n+1) (e+1)+cv (e+1))):=horF A c.F c.iv.mid;have J:aW (cY q.1 q.2.2)=aW ((yv a w h (2*n+1+1) (e+1)-cv (e+1))*(yv a w h (2*n+1+1) (e+1)+cv (e+1))):=horF A c.F c.iv.hi1;rw[H,J]at C;have O:=L.f;have D:=R.t
 have G:=aaK (e+1);have d:=xv A (n:=2*n+1) (e:=e+1) (by omega) (m:=2*n+1+1);have p:=xv A (n:=2*n) (e:=e+1) (by omega) (m:=2*n+1);have r:=dv_neg' A (n:=2*n+1) (e:=e+1) (by omega);generalize o:xh a w h (2*n+1) (e+1)=k at*
 rcases c.iv.step with⟨i,y,s⟩|⟨i,y,s⟩
 . rw[C]at s;have E:k=t:=by
    rcases(show k=t\/k=f by omega)with j|j
    . exact j
    . exfalso;rcases x with⟨rfl,rfl⟩|⟨rfl,rfl⟩
      . rw[j]at o;have u:cv (e+1)<yv a w h (2*n+1) (e+1):=by
         rcases aax.1 o with b|⟨b,X⟩
         . exact b
         . have:=r b (by omega);omega
        have B:=aaG.1 D;rw[sF_pos A u]at s;rcases(show yv a w h (2*n+1+1) (e+1)<cv (e+1)\/yv a w h (2*n+1+1) (e+1)=cv (e+1) by omega)with b|b
        . rw[aat A b B.2]at s;simp at s
        . rw[sF_top A b]at s;simp at s
      . rw[j]at o;have u:=aaG.1 o;have z:=p (by omega) (by omega);have B:=aaH.1 D;rw[aat A (by omega) u.2]at s;rcases(show yv a w h (2*n+1+1) (e+1)< -cv (e+1)\/yv a w h (2*n+1+1) (e+1)= -cv (e+1) by omega)with b|b
        . rw[sF_low A b]at s;simp at s
        . rw[sF_bot A b]at s;simp at s
   rw[E]at L;refine⟨2*n,⟨by rw[y];exact c.F,by rw[y];exact L⟩,by omega,by omega⟩
 . rw[C]at s;have E:k=f:=by
    rcases(show k=t\/k=f by omega)with j|j
    . exfalso;rcases x with⟨rfl,rfl⟩|⟨rfl,rfl⟩
      . rw[j]at o;have u:=aaG.1 o;have B:=aaG.1 D;have z:=d (by omega) (by omega);rcases(show yv a w h (2*n+1) (e+1)<cv (e+1)\/yv a w h (2*n+1) (e+1)=cv (e+1) by omega)with b|b
        . rw[aat A b u.2,aat A (by omega) B.2]at s;simp at s
        . rw[sF_top A b]at s;simp at s
      . rw[j]at o;have u:=aaH.1 o;have z:=d (by omega) (by omega);rcases(show yv a w h (2*n+1) (e+1)< -cv (e+1)\/yv a w h (2*n+1) (e+1)= -cv (e+1) by omega)with b|b
        . rw[sF_low A b,sF_low A (by omega)]at s;simp at s
        . rw[sF_bot A b]at s;simp at s
    . exact j
   rw[E]at R;refine⟨2*n+1,⟨by rw[y];exact c.F,by rw[y];exact R⟩,by omega,by omega⟩
theorem aaU{f t:Int}(d:(f=2/\t=1)\/(f=1/\t=0)):∀{k:Nat}{q:ao}{n:Int}{e:Nat},NQ a w h q n e f t->po xF ai dA k q->∃m b,NQ a w h (xp xF ai k q) m b f t/\m+1<2^b/\b<=e+k/\∃j,e+j=b/\n*2^j<=m/\m+1<=(n+1)*2^j
 |0,_,_,_,_,h=>h.elim
 |k+1,q,n,e,c,p=>by
  simp only[xp];cases i:xF q with
  |true=>
   rw[c.iv.xF,JG]at i;exact⟨n,e,c,i,by omega,0,rfl,by simp,by simp⟩
  |false=>
   obtain⟨_,o⟩:=p;rw[i]at o;obtain⟨m,hm,r,C⟩:=c.step A d;obtain⟨u,b,x,y,D,j,E,z,B⟩:=aaU d hm (o.resolve_left (by simp));refine⟨u,b,x,y,by omega,j+1,by omega,?_,?_⟩
   . have:n*2^(j+1)=(2*n)*2^j:=by rw[Kk];grind
     rw[this];exact Int.le_trans (Jh r (Ju (gg j))) z
   . have:(n+1)*2^(j+1)=(2*n+2)*2^j:=by rw[Kk];grind
     rw[this];exact Int.le_trans B (Jh (by omega) (Ju (gg j)))
theorem IS(q:ao):(ai q).1=q.1:=by
 rw[BS];split
 . rfl
 . split<;>rfl
theorem UN{f t:Int}(b:(f=2/\t=1)\/(f=1/\t=0))(i:f=2->a+w-h<=99)(j:f=1->a+w-h<= -101):∀{k:Nat}{q:ao}{n:Int}{e:Nat},NQ a w h q n e f t->bj 1000 q.1->spd w h<2^(e+k)->e+k<=29000->po xF ai dA (k+1) q
 |k,q,n,e,c,o,p,B=>by
  have r:=c.iv.pre (by omega) o (by have:=c.F.1;omega);refine⟨r,?_⟩;have u:=c.iv.n1;rcases(show n+1<2^e\/n+1=2^e by omega)with d|d
  . left;rw[c.iv.xF,JG];exact d
  . have C:2^e<=spd w h:=by
     have x:yv a w h (n+1) e=(a+w-h)*(2^e*2^e):=by rw[d];unfold yv;grind
     have D:=Je (gg e) (gg e);have E:cv e=100*(2^e*2^e):=rfl;have:=wide_q A c.iv.n0 (show n<=n+1 by omega) u (k:=1) (by omega) (by omega) (by
      rw[x];rcases b with⟨rfl,rfl⟩|⟨rfl,rfl⟩
      . have y:=aax.1 c.cell.f;have z:(a+w-h)*(2^e*2^e)<=99*(2^e*2^e):=Jh (i rfl) (by omega);omega
      . have y:=(aaG.1 c.cell.f).2;have z:(a+w-h)*(2^e*2^e)<= -101*(2^e*2^e):=Jh (j rfl) (by omega);omega)
     omega
    cases k with
    |zero=>rw[Jv]at p;omega
    |succ k=>
     right;obtain⟨m,hm,_,_⟩:=c.step A b;exact UN b i j hm (by rw[IS A];exact o) (by rw[show e+1+k=e+(k+1) by omega];exact p) (by omega)
theorem sepQ_ok:∀{k:Nat}{b c:ao}{d i:Int}{e:Nat},NQ a w h b d e 2 1->NQ a w h c i e 1 0->d<i->bj 1000 b.1->bj 1000 c.1->2*spd w h<2^(e+k)->e+k<=29000->po jR ke zK (k+1) (b,c)
 |k,b,c,d,i,e,j,m,B,o,p,q,C=>by
  have u:=j.iv.pre (by omega) o (by have:=j.F.1;omega);have x:=m.iv.pre (by omega) p (by have:=m.F.1;omega);refine⟨by unfold zK;exact⟨u,x⟩,?_⟩;have y:jR (b,c)=decide (d+1<i):=by
   unfold jR;dsimp only;rw[j.iv.hi.cmp m.iv.lo,JX,xd];omega
  rcases(show d+1<i\/i=d+1 by omega)with r|r
  . left;rw[y,JG];exact r
  . have D:=wide_20 A j.iv.n0 (show d<=i+1 by omega) m.iv.n1 (k:=2) (by omega) (by omega) j.cell.f m.cell.t;cases k with
    |zero=>rw[Jv]at q;omega
    |succ k=>
     right;obtain⟨E,d1,G,H⟩:=j.step A (.inl ⟨rfl,rfl⟩);obtain⟨J,d2,K,L⟩:=m.step A (.inr ⟨rfl,rfl⟩);have:=sepQ_ok (k:=k) d1 d2 (by omega) (by rw[IS A];exact o) (by rw[IS A];exact p) (by rw[show e+1+k=e+(k+1) by omega];exact q) (by omega);have z:ke (b,c)=(ai b,ai c):=by unfold ke;rfl
     rw[z];exact this
theorem sepQ_res:∀{k:Nat}{b c:ao}{d i:Int}{e:Nat},NQ a w h b d e 2 1->NQ a w h c i e 1 0->d<i->po jR ke zK k (b,c)->
 ∃o p j,NQ a w h (xp jR ke k (b,c)).1 o j 2 1/\NQ a w h (xp jR ke k (b,c)).2 p j 1 0/\o+1<p/\j<=e+k/\(xp jR ke k (b,c)).1.1=b.1/\(xp jR ke k (b,c)).2.1=c.1
 |0,_,_,_,_,_,_,_,_,h=>h.elim
 |k+1,b,c,d,i,e,q,r,J,x=>by
  simp only[xp];have y:jR (b,c)=decide (d+1<i):=by
   unfold jR;dsimp only;rw[q.iv.hi.cmp r.iv.lo,JX,xd];omega
  cases u:jR (b,c)with
  |true=>
   rw[y,JG]at u;exact⟨d,i,e,q,r,u,by omega,rfl,rfl⟩
  |false=>
   obtain⟨_,m⟩:=x;rw[u]at m;have m:=m.resolve_left (by simp);have z:ke (b,c)=(ai b,ai c):=by unfold ke;rfl
   rw[z]at m⊢;obtain⟨o,d1,K,L⟩:=q.step A (.inl ⟨rfl,rfl⟩);obtain⟨p,d2,M,N⟩:=r.step A (.inr ⟨rfl,rfl⟩);obtain⟨B,C,j,D,E,F,O,G,H⟩:=sepQ_res d1 d2 (by omega) m;exact⟨B,C,j,D,E,F,by omega,by rw[<-IS A b];exact G,by rw[<-IS A c];exact H⟩
end
end Go.Proofs.Big
