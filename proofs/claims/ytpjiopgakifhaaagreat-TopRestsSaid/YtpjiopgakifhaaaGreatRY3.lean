import Derived.Test.YtpjiopgakifhaaaGreatRA
import Derived.Test.YtpjiopgakifhaaaGreatRY2
import Derived.Test.YtpjiopgakifhaaaGreatRJ
set_option linter.unusedSectionVars false
set_option linter.unusedSimpArgs false
set_option linter.unusedVariables false
set_option maxRecDepth 100000
namespace Go.Proofs.Big
open Go Go.Sx Go.Proofs
def stp(h e:Int)(s:Int×Int):Int×Int:=(yN ⟨0,s.1,s.2,h,e,true⟩,vN ⟨0,s.1,s.2,h,e,true⟩)
def itr(h e:Int):Nat->Int×Int->Int×Int
 |0,s=>s
 |n+1,s=>stp h e (itr h e n s)
theorem stp_free{h e y w:Int}(q:100<=y+w-h):stp h e (y,w)=(y+w-h,w-2*h):=by
 have b:fre ⟨0,y,w,h,e,true⟩=true:=by unfold fre;exact JJ q
 unfold stp yN vN;simp only[b,JE]
theorem aaN{h e y w:Int}(q:y+w-h<=99)(b:w<0)(c:100<=y+lJ w e-h):stp h e (y,w)=(y+lJ w e-h,lJ w e-2*h):=by
 have d:fre ⟨0,y,w,h,e,true⟩=false:=by unfold fre;exact JH (by show¬100<=y+w-h;omega)
 have i:bou ⟨0,y,w,h,e,true⟩=true:=by unfold bou;simp only[J2,JG];exact⟨b,c⟩
 unfold stp yN vN;simp[d,i]
theorem stp_stop{h e y w:Int}(q:y+w-h<=99)(c:w<0->y+lJ w e-h<=99):stp h e (y,w)=(y,0):=by
 have d:fre ⟨0,y,w,h,e,true⟩=false:=by unfold fre;exact JH (by show¬100<=y+w-h;omega)
 have i:bou ⟨0,y,w,h,e,true⟩=false:=by
  unfold bou
  by_cases b:w<0
  . have:=c b;rw[JH (show¬100<=y+lJ w e-h by omega),Bool.and_false]
  . rw[JH b,Bool.false_and]
 unfold stp yN vN;simp[d,i]
theorem sqz(n:Int):0<=n*n:=by
 rcases JV 0 n with h|h
 . exact Ja h h
 . exact Yj h h
structure Inv (h e : Int) (s : Int × Int) : Prop where
 h1 : 1 <= h
 h2 : h <= 30
 e0 : 0 <= e
 e1 : e <= 8
 a0 : 100 <= s.1
 en : s.2 * s.2 + 4 * h * (s.1 - 100) <= 4 * h * 999
 up : 0 < s.2 -> 100 + s.2 + h <= s.1
theorem bnc_le{w e:Int}(d:w<=0)(b:0<=e)(c:e<=8):0<=lJ w e/\lJ w e<= -w:=by
 have h:0<=e* -w:=Ja b (by omega);have i:e* -w<=8* -w:=Jh c (by omega);unfold lJ;omega
theorem Inv.bd{h e:Int}{s:Int×Int}(k:Inv h e s):s.1<=1099/\ -400<=s.2/\s.2<=400:=by
 obtain⟨c,d,i,e1,j,m,up⟩:=k;have q:=sqz s.2;have p:0<=4*h*(s.1-100):=Ja (by omega) (by omega);refine⟨?_,?_,?_⟩
 . have:s.1-100<=999:=Int.le_of_mul_le_mul_left (show 4*h*(s.1-100)<=4*h*999 by omega) (by omega);omega
 . rcases(show s.2< -400\/ -400<=s.2 by omega)with b|b
   . have:(-400:Int)* -400<=s.2*s.2:=by
      have a:=Qb (show(400:Int)<= -s.2 by omega) (show(400:Int)<= -s.2 by omega) (by omega) (by omega);rw[Int.neg_mul_neg]at a;omega
     omega
   . exact b
 . rcases(show 400<s.2\/s.2<=400 by omega)with b|b
   . have a:=Qb (show(400:Int)<=s.2 by omega) (show(400:Int)<=s.2 by omega) (by omega) (by omega);omega
   . exact b
theorem Inv.oks{h e:Int}{s:Int×Int}(k:Inv h e s):OkS s.1 s.2 h e:=by
 obtain⟨c,b,b3⟩:=k.bd;exact⟨k.h1,k.h2,k.a0,by omega,b,b3,k.e0,k.e1⟩
theorem Inv.low{h e:Int}{s:Int×Int}(k:Inv h e s)(q:s.1+s.2-h<=99):s.2<=0:=by
 have:=k.up;have:=k.a0;have:=k.h1;omega
theorem Inv.step{h e:Int}{s:Int×Int}(k:Inv h e s):Inv h e (stp h e s)/\(100<=s.1+s.2-h->s.1+s.2-h<=1100)/\(s.1+s.2-h<=99->s.1+lJ s.2 e-h<=1100):=by
 have kk:=k;obtain⟨y,w⟩:=s;obtain⟨m,o,i,e1,p,r,up⟩:=k;dsimp only at p r up;have d:=kk.low;have B:=sqz w;dsimp only at d⊢;rcases(show 100<=y+w-h\/y+w-h<=99 by omega)with q|q
 . have e2:(w-2*h)*(w-2*h)+4*h*(y+w-h-100)=w*w+4*h*(y-100):=by grind
   have I:Inv h e (stp h e (y,w)):=by
    rw[stp_free q];exact⟨m,o,i,e1,q,by show _<=_;rw[e2];exact r,λu=>by show 100+(w-2*h)+h<=y+w-h;omega⟩
   have b:=I.bd.1;rw[stp_free q]at b;exact⟨I,λ_=>by dsimp only at b;omega,λh=>by omega⟩
 . have z:=d q;obtain⟨A,x⟩:=bnc_le z i e1;have C:=sqz (lJ w e);have D:lJ w e*lJ w e<=w*w:=by
    have:=Qb x x A (by omega);rw[Int.neg_mul_neg]at this;exact this
   rcases(show(w<0/\100<=y+lJ w e-h)\/ ¬(w<0/\100<=y+lJ w e-h) by omega)with⟨c,j⟩|j
   . have e2:(lJ w e-2*h)*(lJ w e-2*h)+4*h*(y+lJ w e-h-100)=lJ w e*lJ w e+4*h*(y-100):=by grind
     have I:Inv h e (stp h e (y,w)):=by
      rw[aaN q c j];exact⟨m,o,i,e1,j,by show _<=_;rw[e2];omega,λu=>by show 100+(lJ w e-2*h)+h<=y+lJ w e-h;omega⟩
     have b:=I.bd.1;rw[aaN q c j]at b;exact⟨I,λh=>by omega,λ_=>by dsimp only at b;omega⟩
   . have I:Inv h e (stp h e (y,w)):=by
      rw[stp_stop q (λc=>by omega)];exact⟨m,o,i,e1,p,by show(0:Int)*0+4*h*(y-100)<=_;omega,λu=>by omega⟩
     refine⟨I,λh=>by omega,λ_=>?_⟩;rcases(show w<0\/w=0 by omega)with c|c
     . omega
     . subst c;have:=kk.bd.1;dsimp only at this;omega
theorem Inv.itr{h e:Int}{s:Int×Int}(k:Inv h e s):∀n,Inv h e (itr h e n s)
 |0=>k
 |n+1=>(Inv.itr k n).step.1
theorem itr_add(h e:Int)(m:Nat)(s:Int×Int):∀n,itr h e (n+m) s=itr h e n (itr h e m s)
 |0=>by rw[Jg];rfl
 |n+1=>by rw[show n+1+m=(n+m)+1 by omega];show stp h e (Big.itr h e (n+m) s)=stp h e (Big.itr h e n (Big.itr h e m s));rw[itr_add h e m s n]
def Rst(h e:Int)(t:Nat)(s:Int×Int):Prop:=∃n,n<=t/\∃p:Int,0<=p/\p<h/\itr h e n s=(100+p,0)
theorem rest_stay{h e p:Int}(b:p<h):∀n,itr h e n (100+p,0)=(100+p,0)
 |0=>rfl
 |n+1=>by
  show stp h e (itr h e n (100+p,0))=_
  rw[rest_stay b n,stp_stop (by omega) (λc=>by omega)]
theorem Rst.more{h e:Int}{t m:Nat}{s:Int×Int}(q:Rst h e t (itr h e m s)):Rst h e (t+m) s:=by
 obtain⟨n,d,p,b,c,e1⟩:=q;exact⟨n+m,by omega,p,b,c,by rw[itr_add];exact e1⟩
theorem Rst.le{h e:Int}{t u:Nat}{s:Int×Int}(q:Rst h e t s)(b:t<=u):Rst h e u s:=by
 obtain⟨n,c,r⟩:=q;exact⟨n,by omega,r⟩
def gst(h p v:Int)(k:Nat):Int×Int:=(100+(p+k*v-k*k*h),v-2*h*k)
structure Fl (h e p v : Int) (s : Int × Int) : Prop where
 fl : ∀ k : Nat, 0 < k -> (∀ j : Nat, j <= k -> (j : Int) * j * h <= p + j * v) -> itr h e k s = gst h p v k
 st : p + v < h -> Rst h e 1 s
theorem gst_free{h e p v:Int}{k:Nat}(q:((k+1:Nat):Int)*((k+1:Nat):Int)*h<=p+((k+1:Nat):Int)*v):stp h e (gst h p v k)=gst h p v (k+1):=by
 have e1:p+((k+1:Nat):Int)*v-((k+1:Nat):Int)*((k+1:Nat):Int)*h=(p+k*v-k*k*h)+(v-2*h*k)-h:=by push_cast;grind
 unfold gst;rw[stp_free (by omega),e1]
 ext
 . dsimp only;omega
 . dsimp only;push_cast;grind
theorem fl_start{h e p:Int}(o:0<h)(c:0<=p):Fl h e p 0 (100+p,0):=by
 have d:gst h p 0 0=(100+p,0):=by unfold gst;simp
 refine⟨λk r b=>?_,λq=>⟨0,by omega,p,c,by omega,rfl⟩⟩;have:∀k:Nat,(∀j:Nat,j<=k->(j:Int)*j*h<=p+j*0)->itr h e k (100+p,0)=gst h p 0 k:=by
  intro k
  induction k with
  |zero=>intro _;exact d.symm
  |succ k i=>
   intro b;show stp h e (itr h e k (100+p,0))=_
   rw[i (λj m=>b j (by omega))];exact gst_free (b (k+1) (J1 _))
 exact this k b
theorem fl_bounce{h e p w:Int}(r:0<h)(c:0<=p)(d:w<0)(q:100+p+w-h<=99)(u:0<=lJ w e):Fl h e p (lJ w e) (100+p,w):=by
 refine⟨λk x b=>?_,λy=>⟨1,by omega,p,c,by omega,?_⟩⟩
 . have:∀k:Nat,(∀j:Nat,j<=k+1->(j:Int)*j*h<=p+j*lJ w e)->itr h e (k+1) (100+p,w)=gst h p (lJ w e) (k+1):=by
    intro k
    induction k with
    |zero=>
     intro b;have z:h<=p+lJ w e:=by simpa using b 1 (by omega)
     show stp h e (100+p,w)=_
     rw[aaN q d (by omega)];unfold gst
     ext
     . dsimp only;simp;omega
     . dsimp only;simp
    |succ k i=>
     intro b;show stp h e (itr h e (k+1) (100+p,w))=_
     rw[i (λj o=>b j (by omega))];exact gst_free (b (k+1+1) (J1 _))
   obtain⟨m,rfl⟩:∃m,k=m+1:=⟨k-1,by omega⟩;exact this m b
 . show stp h e (100+p,w)=_
   rw[stp_stop q (λ_=>by omega)]
theorem chk_ok{h e:Nat}(E:0<h)(F:e<=8):∀{f a b v t k:Nat},kK f h e a b v t k=true->∀p:Nat,a<=p->p<b->(∀j:Nat,j<=k->j*j*h<=p+j*v)->∀s:Int×Int,Fl h e p v s->Rst h e t s
 |0,_,_,_,_,_,i,_,_,_,_,_,_=>by cases i
 |f+1,a,b,v,t,k,i,p,L,M,r,s,y=>by
  have hk:=r k (J1 _);unfold kK at i;simp only[dN,mxN_eq,mnN_eq]at i;split at i
  . rename_i d;have d:b+k*v<=k*k*h:=Qk d;omega
  . simp only[J2]at i;obtain⟨c,z⟩:=i
    by_cases A:(k+1)*(k+1)*h<=p+(k+1)*v
    . exact chk_ok E F z p L M (λj o=>by
       rcases(show j<=k\/j=k+1 by omega)with m|m
       . exact r j m
       . subst m;exact A) s y
    . have hd:k*k*h-k*v<=p:=by omega
      have hu:p<(k+1)*(k+1)*h-(k+1)*v:=by omega
      have N:Nat.sub (Nat.mul (Nat.mul k k) h) (Nat.mul k v)=k*k*h-k*v:=rfl;have O:Nat.sub (Nat.mul (Nat.mul (Nat.succ k) (Nat.succ k)) h) (Nat.mul (Nat.succ k) v)=(k+1)*(k+1)*h-(k+1)*v:=rfl;rw[N,O]at c;have R:max a (k*k*h-k*v)<=p:=by omega
      have X:p<min b ((k+1)*(k+1)*h-(k+1)*v):=by omega
      have G:k*k*h<=max a (k*k*h-k*v)+k*v:=by omega
      generalize max a (k*k*h-k*v)=H at*
      generalize min b ((k+1)*(k+1)*h-(k+1)*v)=J at*
      split at c
      . rename_i d;have d:J<=H:=Qk d;omega
      . split at c
        . rename_i d;have q:=Jd d;subst q;have u:1<=t:=Qk c;have:(p:Int)+v<h:=by
           simp at A;omega
          exact(y.st this).le u
        . rename_i d;have q:k≠0:=λh=>by subst h;cases d
          simp only[J2]at c;obtain⟨⟨u,x⟩,B⟩:=c;have u:k<=t:=Qk u;have x:v<=2*h*k:=Qk x;have hI:∀j:Nat,j<=k->(j:Int)*j*h<=(p:Int)+j*v:=λj o=>by exact_mod_cast r j o
          have C:=y.fl k (by omega) hI;have Z:=hI k (J1 _);have ac: ¬((k+1:Nat):Int)*((k+1:Nat):Int)*h<=p+((k+1:Nat):Int)*v:=λh=>A (by exact_mod_cast h)
          have e1:(p:Int)+((k+1:Nat):Int)*v-((k+1:Nat):Int)*((k+1:Nat):Int)*h=(p+k*v-k*k*h)+(v-2*h*k)-h:=by push_cast;grind
          have ad:(v:Int)<=2*h*k:=by exact_mod_cast x
          obtain⟨P,hP⟩:∃P:Nat,P=p+k*v-k*k*h:=⟨_,rfl⟩;have D:(P:Int)=p+k*v-k*k*h:=by
           have:p+k*v=P+k*k*h:=by omega
           have:((p+k*v:Nat):Int)=((P+k*k*h:Nat):Int):=by rw[this]
           push_cast at this
           omega
          unfold gst at C;rw[<-D]at C;have goal:Rst h e (t-k) (itr h e k s):=by
           rw[C];rcases(show(v:Int)-2*h*k=0\/(v:Int)-2*h*k<0 by omega)with m|m
           . rw[m];exact⟨0,by omega,P,by omega,by omega,rfl⟩
           . have hS:((2*h*k-v:Nat):Int)= -((v:Int)-2*h*k):=by
              rw[Int.ofNat_sub x];push_cast;omega
             have d:lJ ((v:Int)-2*h*k) e=((e*(2*h*k-v)/16:Nat):Int):=by
              unfold lJ;rw[<-hS];push_cast;rfl
             have K:=fl_bounce (e:=e) (w:=(v:Int)-2*h*k) (show(0:Int)<h by omega) (show(0:Int)<=P by omega) m (by omega) (by rw[d];omega);rw[d]at K;refine chk_ok E F B P ?_ ?_ (λj r=>by
              have:j=0:=by omega
              subst this;simp) _ K
             . show H+k*v-k*k*h<=P
               omega
             . show P<J+k*v-k*k*h
               omega
          have:=goal.more;exact this.le (by omega)
theorem rest_all{h e y:Int}(i:1<=h)(k:h<=30)(o:0<=e)(r:e<=8)(u:100<=y)(w:y<=1099):∃p:Int,100<=p/\p<100+h/\∀n,itr h e (n+250) (y,0)=(p,0):=by
 obtain⟨H,rfl⟩:∃H:Nat,h=H:=⟨h.toNat,by omega⟩;obtain⟨E,rfl⟩:∃E:Nat,e=E:=⟨e.toNat,by omega⟩;obtain⟨p,rfl⟩:∃p:Nat,y=100+p:=⟨(y-100).toNat,by omega⟩;have b:=ck_all (h:=H) (by omega) (by omega);unfold chkH at b;have b:=Js.1 b E (Kn.2 (by omega));obtain⟨n,x,q,z,c,d⟩:=chk_ok (show 0<H by omega) (show E<=8 by omega) b p (by omega) (by omega) (λj A=>by
  have:j=0:=by omega
  subst this;simp) _ (fl_start (e:=E) (show(0:Int)<H by omega) (show(0:Int)<=p by omega))
 refine⟨100+q,by omega,by omega,λm=>?_⟩;rw[show m+250=(m+250-n)+n by omega,itr_add,d,rest_stay c]
end Go.Proofs.Big
namespace Go.Proofs.Big
open Go Go.Sx Go.Proofs Tryz
variable [bW]
set_option maxHeartbeats 4000000
abbrev H5:=Int×Int×Int×Int×Int
def xf:Ou H5 where
 n:=5
 enc a:=[.int .i64 a.1,.int .i64 a.2.1,.int .i64 a.2.2.1,.int .i64 a.2.2.2.1,.int .i64 a.2.2.2.2]
 dec:=λ|[x0,x1,x2,x3,x4]=>oB (rI .i64 x0) λa0=>oB (rI .i64 x1) λa1=>oB (rI .i64 x2) λa2=>oB (rI .i64 x3) λa3=>oB (rI .i64 x4) λa4=>some (a0,a1,a2,a3,a4)|_=>none
 qW:=(0,0,0,0,0)
 ak _:=True
 kW _:=trivial
 ok l a h _:=by
  split at h
  case h_2=>cases h
  obtain⟨a0,h0,h⟩:=gQ h;obtain⟨a1,h1,h⟩:=gQ h;obtain⟨a2,h2,h⟩:=gQ h;obtain⟨a3,h3,h⟩:=gQ h;obtain⟨a4,h4,h⟩:=gQ h;cases h;exact⟨vX h0,vX h1,vX h2,vX h3,vX h4,trivial⟩
 self a:=by simp only[xk,oB]
 len _:=rfl
 Aa c x y a b h k:=by
  split at h
  case h_2=>cases h
  split at k
  case h_2=>cases k
  obtain⟨a0,h0,h⟩:=gQ h;obtain⟨b0,k0,k⟩:=gQ k;obtain⟨a1,h1,h⟩:=gQ h;obtain⟨b1,k1,k⟩:=gQ k;obtain⟨a2,h2,h⟩:=gQ h;obtain⟨b2,k2,k⟩:=gQ k;obtain⟨a3,h3,h⟩:=gQ h;obtain⟨b3,k3,k⟩:=gQ k;obtain⟨a4,h4,h⟩:=gQ h;obtain⟨b4,k4,k⟩:=gQ k;cases h;cases k;simp only[af,Py h0 k0,Py h1 k1,Py h2 k2,Py h3 k3,Py h4 k4,oB];cases c<;>rfl
theorem codH_z:∀l a,xf.dec l=some a->xf.ak l->oP l (xf.enc a):=by
 intro l a h _;simp only[xf]at h⊢;split at h
 case h_2=>cases h
 obtain⟨j,b,h⟩:=gQ h;obtain⟨k,c,h⟩:=gQ h;obtain⟨m,d,h⟩:=gQ h;obtain⟨o,e,h⟩:=gQ h;obtain⟨p,i,h⟩:=gQ h;cases h;rw[Fk b,Fk c,Fk d,Fk e,Fk i];exact⟨rfl,rfl,rfl,rfl,rfl,trivial⟩
abbrev mv:Ou (List H5):=OE xf codH_z
abbrev aap:Ou Ω:=OE (aF .i64) UW
abbrev lA:=List H5×Int×Ω×Int
def Dh:Ou lA where
 n:=4
 enc a:=mv.enc a.1++((aF .u64).enc a.2.1++(aap.enc a.2.2.1++(aF .i64).enc a.2.2.2))
 dec l:=match l with|[p,x,y,z]=>oB (mv.dec [p]) λa=>oB (rI .u64 x) λb=>oB (aap.dec [y]) λc=>oB (rI .i64 z) λd=>some (a,b,c,d)|_=>none
 qW:=([],0,[],0)
 ak l:=match l with|[p,x,y,z]=>mv.ak [p]/\aap.ak [y]|_=>True
 ok l a h hg:=by
  split at h
  case h_2=>cases h
  obtain⟨a1,h1,h⟩:=gQ h;obtain⟨a2,h2,h⟩:=gQ h;obtain⟨a3,h3,h⟩:=gQ h;obtain⟨a4,h4,h⟩:=gQ h;cases h;obtain⟨g1,g2⟩:=hg;exact⟨(mv.ok _ _ h1 g1).1,vX h2,(aap.ok _ _ h3 g2).1,vX h4,trivial⟩
 self a:=by
  have h1:mv.dec (mv.enc a.1)=some a.1:=mv.self a.1;have h3:aap.dec (aap.enc a.2.2.1)=some a.2.2.1:=aap.self a.2.2.1;show oB (mv.dec (mv.enc a.1)) (λp=>oB (rI .u64 (.int .u64 a.2.1)) λb=>oB (aap.dec (aap.enc a.2.2.1)) λc=>oB (rI .i64 (.int .i64 a.2.2.2)) λd=>some (p,b,c,d))=some a
  rw[h1,h3,xk,xk];rfl
 kW a:=⟨mv.kW a.1,aap.kW a.2.2.1⟩
 len _:=rfl
 Aa c x y a b h k:=by
  split at h
  case h_2=>cases h
  split at k
  case h_2=>cases k
  obtain⟨a1,h1,h⟩:=gQ h;obtain⟨a2,h2,h⟩:=gQ h;obtain⟨a3,h3,h⟩:=gQ h;obtain⟨a4,h4,h⟩:=gQ h;obtain⟨b1,k1,k⟩:=gQ k;obtain⟨b2,k2,k⟩:=gQ k;obtain⟨b3,k3,k⟩:=gQ k;obtain⟨b4,k4,k⟩:=gQ k;cases h;cases k;have e1:=mv.Aa c _ _ _ _ h1 k1;have e3:=aap.Aa c _ _ _ _ h3 k3;simp only[af]at e1 e3⊢;simp only[e1,e3,Py h2 k2,Py h4 k4,oB];cases c<;>rfl
@[simp] theorem codO_n:Dh.n=4:=rfl
@[simp] theorem codO_dft:Dh.qW=([],0,[],0):=rfl
abbrev RD:=Int×Int×Int×Int×Int×Bool×Nat
def cmds(n:Nat):SV:=.bF 3 n λ_=>[.int .u32 0,I 0,I 0]
def arR(a:RD):List SV:=[vS a.2.2.2.1 a.2.2.2.2.1,jx a.1 a.2.1 a.2.2.1 a.2.2.2.2.2.1,cmds a.2.2.2.2.2.2]
def sgRun:iR RD where
 n:=3
 enc:=arR
 dec l:=match l with
  |[t,s,.bF es n f]=>match rd17 [t,s,.agg []]with
   |some a=>some (uP pk eL l (arR (a.tk,a.y,a.w,a.h,a.e,a.k,n)),(a.tk,a.y,a.w,a.h,a.e,a.k,n))
   |none=>none
  |_=>none
 ok l p a h hp:=by
  dsimp only at h;split at h
  case h_2=>cases h
  split at h
  case h_2=>cases h
  simp only[J3,Q4]at h;obtain⟨rfl,rfl⟩:=h;exact⟨hp,rfl⟩
def F9(y w h e i:Int):Int:=(itr h e i.toNat (y,w)).1
def tB(y w h e i:Int):Int:=(itr h e i.toNat (y,w)).2
def Fv(y w h e i:Int):lA:=(List.replicate (fF ⟨0,F9 y w h e i,tB y w h e i,h,e,true⟩) (1,0,1,0,-(tB y w h e i)),0,[],0)
def yI(y w h e i:Int):List lA:=(List.range i.toNat).map λ(k:Nat)=>Fv y w h e k
def ue(b y w h e:Int)(k:Bool)(n:Nat):Prop:=0<=b/\b+n<=300/\1<=n/\n<=250/\Inv h e (y,w)/\(k=false->b=0/\w=0)
def w6(y w h e:Int)(k:Bool)(n:Nat)(i:Int)(b:Bool)(l:List lA):Prop:=0<=i/\i<=n/\l=yI y w h e i/\b=(k||decide (0<i))
attribute [irreducible] F9 tB Fv yI ue w6
def stR(tk y w h e:Int):Port where
 T:=Int×Bool
 rd s k:=Ao s (.tm 10) λx=>match x with
  |.int _ i=>Ao s (.sg 1 2) λz=>match z with
   |.aq=>k (i,false)
   |.emp=>k (i,true)
   |_=>False
  |_=>False
 ws _ x:=match x with
  |(i,kk)=>[(.tm 10,.v (.int .i64 i)),(.sg 1 0,.s (.s (I (tk+i)))),(.sg 1 1,.s (.s (Dr (F9 y w h e i) (tB y w h e i)))),(.sg 1 2,.s (.s (kS kk))),(.sg 1 3,.s (.s (kS kk))),(.sg 1 4,.s (.s (.bF 1 1 λ_=>[.bool false]))),(.sg 1 5,.s (.s (.int .u32 0)))]
 all k:=∀i,k (i,false)/\k (i,true)
 ok s k h:=by
  obtain⟨x,h⟩:=rj h;split at h
  . obtain⟨z,h⟩:=rj h;split at h
    . exact⟨_,h⟩
    . exact⟨_,h⟩
    . exact h.elim
  . exact h.elim
 oT k h x:=by
  obtain⟨i,e⟩:=x;cases e
  . exact(h i).1
  . exact(h i).2
def stT(tk y w h e:Int):Port where
 T:=Int
 rd s k:=Ao s (.tm 10) λx=>match x with
  |.int _ i=>k i
  |_=>False
 ws _ i:=[(.tm 10,.v (.int .i64 i)),(.sg 1 0,.s (.s (I (tk+i)))),(.sg 1 1,.s (.s (Dr (F9 y w h e i) (tB y w h e i)))),(.sg 1 2,.s (.s .emp)),(.sg 1 3,.s (.s .emp)),(.sg 1 4,.s (.s (.bF 1 1 λ_=>[.bool false]))),(.sg 1 5,.s (.s (.int .u32 0)))]
 all k:=∀i,k i
 ok s k h:=by
  obtain⟨x,h⟩:=rj h;split at h
  . exact⟨_,h⟩
  . exact h.elim
 oT k h x:=h x
def T17:List (Nat×bB):=[(17,c17)]
def c12:bB:=ow sgRun.dec (λa=>ue a.1 a.2.1 a.2.2.1 a.2.2.2.1 a.2.2.2.2.1 a.2.2.2.2.2.1 a.2.2.2.2.2.2) (λa=>.df [jx (a.1+(a.2.2.2.2.2.2:Int)) (F9 a.2.1 a.2.2.1 a.2.2.2.1 a.2.2.2.2.1 a.2.2.2.2.2.2) (tB a.2.1 a.2.2.1 a.2.2.2.1 a.2.2.2.2.1 a.2.2.2.2.2.2) true,(zN Dh).enc (yI a.2.1 a.2.2.1 a.2.2.2.1 a.2.2.2.2.1 a.2.2.2.2.2.2),.tt])
def an12(b y w h e:Int)(k:Bool)(n:Nat):List kM:=[⟨.unit,.list [stR b y w h e,.ah Dh 3 56 [.tm 9]],λ_ (x:(Int×Bool)×List lA)=>w6 y w h e k n x.1.1 x.1.2 x.2,λ_ (x:(Int×Bool)×List lA)=>(n-x.1.1).toNat⟩]
def vc12f(b:Int)(y:Int)(w:Int)(h:Int)(e:Int)(n:Nat):Prop:=fQ T17 f12 (an12 b y w h e false n) [vS h e,jx b y w false,cmds n] (.df [jx (b+n) (F9 y w h e n) (tB y w h e n) true,(zN Dh).enc (yI y w h e n),.tt])
def an12t(b y w h e:Int)(n:Nat):List kM:=[⟨.unit,.list [stT b y w h e,.ah Dh 3 56 [.tm 9]],λ_ (x:Int×List lA)=>w6 y w h e true n x.1 true x.2,λ_ (x:Int×List lA)=>(n-x.1).toNat⟩]
def vc12t(b:Int)(y:Int)(w:Int)(h:Int)(e:Int)(n:Nat):Prop:=fQ T17 f12 (an12t b y w h e n) [vS h e,jx b y w true,cmds n] (.df [jx (b+n) (F9 y w h e n) (tB y w h e n) true,(zN Dh).enc (yI y w h e n),.tt])
theorem vc12f_eq(tk:Int)(y:Int)(w:Int)(h:Int)(e:Int)(n:Nat):(
 let c:=sm (0:Int)
 let c8:=c/\True
 let e5:=c/\c/\c8
 let c9:=λ(x:Nat)=>x=x/\∀i,i<x->e5
 let D:=sm 0
 let d0:=ab 31 True
 let e6:=SV.int .i64 0
 let H:=ar.s e6
 let g:=ar.s SV.aq
 let e7:=[(119:UInt8)]
 let N:=I 1
 let o:=I 0
 let e8:=I (-1)
 let J:=([]:List SV)
 let O:=([]:List ar)
 let K:=g::O
 let E:=λ(y w:Int)=>List.map ar.shape (ar.s (SV.int .i64 100)::ar.s (SV.int .i64 1)::H::H::ar.s (SV.int .i64 (-y))::H
  ::H::g::ar.s (SV.bF 13 1 λx=>SV.str e7::N::o::I (-500)::o::I 500::o::I w::o::o::o::e8::e8::J)::g::g::g::g::g::g
  ::g::g::K)
 let e9:=sm (100:Int)
 let t:=sm (1:Int)
 let A:=sm 1
 let u:=λ(x:Nat)=>x<1
 let f0:=sm (-1)
 let f1:=λ(x:Int)=>c/\c/\True/\(A/\∀(i:Nat),u i->sm e7/\t/\c/\sm (-500:Int)/\c/\sm (500:Int)/\c/\x=x/\c/\c/\c/\f0/\f0/\True)
  /\ab (9:Nat) True
 let d1:=λ(x y:Int)=>e9/\t/\c/\c/\ -x= -x/\f1 y
 let f2:=ar.s (SV.int .u32 0)::O
 let F:=λ(y w m:Int)=>List.map ar.shape (ar.s (SV.int .i64 y)::ar.s (SV.bF 7 1 λx=>N::o::o::o::I w::o::I m::J)::g::g
  ::ar.s (SV.bF 1 1 λx=>SV.bool false::J)::f2)
 let P:=false=false
 let d2:=(A/\∀(i:Nat),u i->P/\True)/\c8
 let G:=ab 2 d2
 let f3:=List.map ar.shape (H::O++(K++(K++(K++(K++(f2++O))))))
 let d3:=f3=f3
 let d4:=c/\ab 4 c8
 let L:=Dh
 let d5:=L.n
 let d:=λ(x:Nat)=>(↑x:Int)
 let f4:=λ(x y w m s X:Int)=>(e9/\t/\c/\c/\ -x= - - -x/\f1 y)/\(w+m=w+m/\(A/\∀(b:Nat),u b->t/\c/\c/\c/\sm (F9 s X x y m)/\
  c/\sm (tB s X x y m)/\True)/\G)/\e5/\True
 let f5:=λ(x y w m s:Int)=>OkS (F9 x y w m s) (tB x y w m s) (- -w) m
 let d6:=λ(x y w m s:Int)=>F9 x y w m s+tB x y w m s- - -w
 let f6:=λ(x y w m s:Int)=>100<=d6 x y w m s->d6 x y w m s<=1100
 let f7:=λ(x y w m s:Int)=>d6 x y w m s<=99->tB x y w m s<=0/\F9 x y w m s+lJ (tB x y w m s) m- - -w<=1100
 let r:=λ(x:List lA)=>x.length
 let Q:=λ(x:List lA)=>0+r x<=r x/\∀i,i<r x->true=true
 let R:=λ(x y w m s:Int)(X:Nat)=>A/\∀(b:Nat),u b->t/\c/\c/\c/\F9 x y w m s=F9 x y w m (d X)/\c/\tB x y w m s=tB x y w m (d X)
  /\True
 let f:=L.qW
 let T:=λ(x:List lA)(y:Nat)=>(x.getD (0+y) f).fst
 let c0:=λ(x y w m:Int)(s X:Nat)=>((yI x y w m (d s)).getD X f).fst
 let c1:=xf
 let v:=c1.qW
 let d7:=λ(x:List lA)(y w:Nat)=>((T x y).getD w v).snd
 let d8:=λ(x y w m:Int)(s X y1:Nat)=>((c0 x y w m s X).getD y1 v).snd.snd
 let f8:=λ(x:List lA)(y w:Nat)=>(d7 x y w).snd.snd
 let f9:=λ(x:List lA)(y:Nat)=>(x.getD (0+y) f).snd
 let c2:=λ(x y w m:Int)(s X:Nat)=>((yI x y w m (d s)).getD X f).snd
 let d9:=λ(x:List lA)(y:Nat)=>(f9 x y).snd
 let g0:=λ(x:List lA)(y:Nat)=>(d9 x y).fst.length
 let M:=(aF IntKind.i64).qW
 let c3:=λ(x:List lA)(y w m s:Int)(X:Nat)=>r x=(yI y w m s (d X)).length/\∀i,i<r x->((T x i).length=(c0 y w m s X i).length
  /\∀(b:Nat),b<(T x i).length->((T x i).getD b v).fst=((c0 y w m s X i).getD b v).fst/\(d7 x i b).fst=((c0 y w m s X i).getD b v).snd.fst
  /\(d7 x i b).snd.fst=(d8 y w m s X i b).fst/\(f8 x i b).fst=(d8 y w m s X i b).snd.fst/\(f8 x i b).snd=(d8 y w m s X i b).snd.snd/\True)
  /\(f9 x i).fst=(c2 y w m s X i).fst/\(g0 x i=(c2 y w m s X i).snd.fst.length/\∀(b:Nat),b<g0 x i->(d9 x i).fst.getD b M=(c2 y w m s X i).snd.fst.getD
  b M/\True)/\(d9 x i).snd=(c2 y w m s X i).snd.snd/\True
 let g1:=1<=1
 let g2:=∀(j:Nat),u j->true=true
 let q:=λ(x:List lA)=>r x+1
 let g3:=λ(x:List lA)=>D/\r x=r x/\q x<=140737488355328/\q x*64<=140737488355328
 let p:=λ(x:Int)=>W (x+1)
 let z:=λ(x:Nat)(y:List lA)=>decide (x<r y)
 let g4:=λ(x:List lA)(y:Nat)=>L.enc (x.getD y f)
 let c4:=λ(x m s X y1 u1:Int)=>{tk:=x+m,y:=F9 s X y1 u1 m,w:=tB s X y1 u1 m,h:= - -y1,e:=u1,k:=false:AD}
 let e0:=λ(x y w m s:Int)=>N::o::N::o::I (-tB x y w m s)::J
 let g5:=SV.int .u64 0::SV.aq::e6::J
 let B:=λ(y:List lA)(w m s X y1 u1:Int)=>ah L (q y) λj=>af (z j y) (g4 y j) ((SV.bF 5 (fF (c4 w m s X y1 u1)) λx=>e0 s X y1 u1
  m)::g5)
 let g6:=λ(x:Nat)(y:Int)=>(d x-p y).toNat<(d x-y).toNat
 let c5:=([]:List (Option (Nat×Nat)))
 let g7:=4=d5
 let e1:=λ(x:List lA)(y:Nat)=>(x.getD y f).fst
 let g8:=λ(x:Nat)(y:List lA)(w m s X y1 u1:Int)=>if z x y=true then(e1 y x).length else fF (c4 w m s X y1 u1)
 let g9:=λ(x y:Nat)(w:List lA)(m s X y1 u1:Int)=>if z x w=true then c1.enc ((e1 w x).getD y v)else e0 m s X y1 u1
 let h0:=λ(x:List lA)(y:Nat)=>(x.getD y f).snd
 let h1:=λ(x:Nat)(y:List lA)=>if z x y=true then(h0 y x).fst else 0
 let e2:=λ(x:List lA)(y:Nat)=>(h0 x y).snd
 let c6:=λ(x:Nat)(y:List lA)=>if z x y=true then(e2 y x).fst.length else 0
 let e3:=λ(x:List lA)(y w m s X y1:Int)(u1:Nat)=>((B x y w m s X y1).getD u1 f).snd.snd
 let h2:=λ(x:List lA)(y w:Nat)=>(e2 x y).fst.getD w M
 let h3:=λ(x:Nat)(y:List lA)=>if z x y=true then(e2 y x).snd else 0
 let c7:=λ(x m s X y1 u1:Int)=>{tk:=x+m,y:=F9 s X y1 u1 m,w:=tB s X y1 u1 m,h:= - -y1,e:=u1,k:=true:AD}
 let C:=λ(y:List lA)(w m s X y1 u1:Int)=>ah L (q y) λj=>af (z j y) (g4 y j) ((SV.bF 5 (fF (c7 w m s X y1 u1)) λx=>e0 s X y1 u1
  m)::g5)
 let h4:=λ(x:Nat)(y:List lA)(w m s X y1 u1:Int)=>if z x y=true then(e1 y x).length else fF (c7 w m s X y1 u1)
 let e4:=λ(x:List lA)(y w m s X y1:Int)(u1:Nat)=>((C x y w m s X y1).getD u1 f).snd.snd
 ab 3 ((w6 y w h e false n 0 false []/\ab 2 (c9 n/\ab 6 ((D/\D)/\c/\d0))/\E h e=E h e/\d1 h e/\F tk y w=F tk y w/\(tk=tk+0/\(A/\∀(i:Nat),
  u i->t/\c/\c/\c/\y=F9 y w h e 0/\c/\w=tB y w h e 0/\True)/\G)/\d3/\d4/\D/\d5=d5/\True)/\∀(i:Int),(∀(l:List lA),w6 y w h e false
  n i false l->True/\(decide (i<d n)=true->(0<=i/\i<d n)/\ab 3 ((f4 h e tk i y w/\f5 y w h e i/\0<=tk+i/\tk+i<=300/\f6 y w h e i/\f7 y w h
  e i/\(P->tk+i=0/\tB y w h e i=0))/\ru true/\True/\(false=true->ab 2 (Q l/\True/\((tk+i=tk+d n/\R y w h e i n/\False/\False/\d2)/\c3
  l y w h e n/\False/\True)/\True))/\(P->True/\g1/\g2/\g3 l/\ab 2 (w6 y w h e false n (p i) true (B l tk i y w h e)/\g6 n i/\ab 2 (c9 n/\ab 6 ((D
  /\q l=(B l tk i y w h e).length)/\sm (p i)/\d0))/\E h e=E h e/\d1 h e/\F tk y w=F tk y w/\(tk+i+1=tk+p i/\(A/\∀(b:Nat),u b->t/\c
  /\c/\c/\yN (c4 tk i y w h e)=F9 y w h e (p i)/\c/\vN (c4 tk i y w h e)=tB y w h e (p i)/\True)/\G)/\d3/\d4/\c5=c5/\((q l=(B l tk i y w h e).length
  /\g7/\∀(b:Nat),b<q l->(g8 b l tk i y w h e=((B l tk i y w h e).getD b f).fst.length/\∀(Z:Nat),Z<g8 b l tk i y w h e->bK (g9 b
  Z l y w h e i) (c1.enc (((B l tk i y w h e).getD b f).fst.getD Z v)))/\h1 b l=((B l tk i y w h e).getD b f).snd.fst/\(c6 b l=(e3 l tk i y w h e
  b).fst.length/\∀(Z:Nat),Z<c6 b l->h2 l b Z=(e3 l tk i y w h e b).fst.getD Z M/\True)/\h3 b l=(e3 l tk i y w h e b).snd/\True)
  /\True)/\True))))/\(decide (i<d n)=false->ab 2 (Q l/\True/\((tk+i=tk+d n/\R y w h e i n/\False/\False/\d2)/\c3 l y w h e n/\True/\True)/\
  True)))/\∀(l:List lA),w6 y w h e false n i true l->True/\(decide (i<d n)=true->(0<=i/\i<d n)/\ab 3 ((f4 h e tk i y w/\f5 y w h e i/\0<=
  tk+i/\tk+i<=300/\f6 y w h e i/\f7 y w h e i/\(true=false->tk+i=0/\tB y w h e i=0))/\ru true/\True/\(false=true->ab 2 (Q l/\True/\((tk
  +i=tk+d n/\R y w h e i n/\G)/\c3 l y w h e n/\False/\True)/\True))/\(P->True/\g1/\g2/\g3 l/\ab 2 (w6 y w h e false n (p i) true (C l tk i y
  w h e)/\g6 n i/\ab 2 (c9 n/\ab 6 ((D/\q l=(C l tk i y w h e).length)/\sm (p i)/\d0))/\E h e=E h e/\d1 h e/\F tk y w=F tk y w/\(tk+i+1=tk
  +p i/\(A/\∀(b:Nat),u b->t/\c/\c/\c/\yN (c7 tk i y w h e)=F9 y w h e (p i)/\c/\vN (c7 tk i y w h e)=tB y w h e (p i)/\True)/\G)/\d3/\d4
  /\c5=c5/\((q l=(C l tk i y w h e).length/\g7/\∀(b:Nat),b<q l->(h4 b l tk i y w h e=((C l tk i y w h e).getD b f).fst.length/\∀(Z:Nat),
  Z<h4 b l tk i y w h e->bK (g9 b Z l y w h e i) (c1.enc (((C l tk i y w h e).getD b f).fst.getD Z v)))/\h1 b l=((C l tk i y w h e).getD b
  f).snd.fst/\(c6 b l=(e4 l tk i y w h e b).fst.length/\∀(Z:Nat),Z<c6 b l->h2 l b Z=(e4 l tk i y w h e b).fst.getD Z M/\True)/\h3
  b l=(e4 l tk i y w h e b).snd/\True)/\True)/\True))))/\(decide (i<d n)=false->ab 2 (Q l/\True/\((tk+i=tk+d n/\R y w h e i n/\G)/\c3 l
  y w h e n/\True/\True)/\True))))=vc12f tk y w h e n:=by kernel_rfl
theorem vc12t_eq(tk:Int)(y:Int)(w:Int)(h:Int)(e:Int)(n:Nat):(
 let c:=sm (0:Int)
 let c0:=c/\True
 let c8:=c/\c/\c0
 let c9:=λ(x:Nat)=>x=x/\∀i,i<x->c8
 let C:=sm 0
 let d0:=ab 31 True
 let d1:=SV.int .i64 0
 let D:=ar.s d1
 let o:=ar.s SV.aq
 let d2:=[(119:UInt8)]
 let G:=I 1
 let d:=I 0
 let d3:=I (-1)
 let E:=([]:List SV)
 let H:=([]:List ar)
 let F:=o::H
 let J:=λ(y w:Int)=>List.map ar.shape (ar.s (SV.int .i64 100)::ar.s (SV.int .i64 1)::D::D::ar.s (SV.int .i64 (-y))::D
  ::D::o::ar.s (SV.bF 13 1 λx=>SV.str d2::G::d::I (-500)::d::I 500::d::I w::d::d::d::d3::d3::E)::o::o::o::o::o::o
  ::o::o::F)
 let d4:=sm (100:Int)
 let q:=sm (1:Int)
 let v:=sm 1
 let r:=λ(x:Nat)=>x<1
 let d5:=sm (-1)
 let d6:=λ(x:Int)=>c/\c/\True/\(v/\∀(i:Nat),r i->sm d2/\q/\c/\sm (-500:Int)/\c/\sm (500:Int)/\c/\x=x/\c/\c/\c/\d5/\d5/\True)
  /\ab (9:Nat) True
 let d7:=λ(x y:Int)=>d4/\q/\c/\c/\ -x= -x/\d6 y
 let d8:=ar.s (SV.int .u32 0)::H
 let K:=λ(y w m:Int)=>List.map ar.shape (ar.s (SV.int .i64 y)::ar.s (SV.bF 7 1 λx=>G::d::d::d::I w::d::I m::E)::ar.s SV.emp
  ::ar.s SV.emp::ar.s (SV.bF 1 1 λx=>SV.bool false::E)::d8)
 let L:=ab 2 ((v/\∀(i:Nat),r i->false=false/\True)/\c0)
 let M:=List.map ar.shape (D::H++(F++(F++(F++(F++(d8++H))))))
 let d9:=c/\ab 4 c0
 let N:=Dh
 let c1:=N.n
 let f:=λ(x:Nat)=>(↑x:Int)
 let c2:=λ(x y w m s:Int)=>F9 x y w m s+tB x y w m s- - -w
 let p:=λ(x:List lA)=>x.length
 let e0:=λ(x:List lA)=>0+p x<=p x/\∀i,i<p x->true=true
 let e1:=λ(x y w m s X:Int)(y1:Nat)=>x+y=x+f y1/\(v/\∀(b:Nat),r b->q/\c/\c/\c/\F9 w m s X y=F9 w m s X (f y1)/\c/\tB w
  m s X y=tB w m s X (f y1)/\True)/\L
 let g:=N.qW
 let O:=λ(x:List lA)(y:Nat)=>(x.getD (0+y) g).fst
 let P:=λ(x y w m:Int)(s X:Nat)=>((yI x y w m (f s)).getD X g).fst
 let t:=xf.qW
 let c3:=λ(x:List lA)(y w:Nat)=>((O x y).getD w t).snd
 let c4:=λ(x y w m:Int)(s X y1:Nat)=>((P x y w m s X).getD y1 t).snd.snd
 let e2:=λ(x:List lA)(y w:Nat)=>(c3 x y w).snd.snd
 let e3:=λ(x:List lA)(y:Nat)=>(x.getD (0+y) g).snd
 let Q:=λ(x y w m:Int)(s X:Nat)=>((yI x y w m (f s)).getD X g).snd
 let c5:=λ(x:List lA)(y:Nat)=>(e3 x y).snd
 let e4:=λ(x:List lA)(y:Nat)=>(c5 x y).fst.length
 let R:=(aF IntKind.i64).qW
 let e5:=λ(x:List lA)(y w m s:Int)(X:Nat)=>p x=(yI y w m s (f X)).length/\∀i,i<p x->((O x i).length=(P y w m s X i).length
  /\∀(b:Nat),b<(O x i).length->((O x i).getD b t).fst=((P y w m s X i).getD b t).fst/\(c3 x i b).fst=((P y w m s X i).getD b t).snd.fst/\
  (c3 x i b).snd.fst=(c4 y w m s X i b).fst/\(e2 x i b).fst=(c4 y w m s X i b).snd.fst/\(e2 x i b).snd=(c4 y w m s X i b).snd.snd/\True)/\
  (e3 x i).fst=(Q y w m s X i).fst/\(e4 x i=(Q y w m s X i).snd.fst.length/\∀(b:Nat),b<e4 x i->(c5 x i).fst.getD b R=(Q y w m s X i).snd.fst.getD
  b R/\True)/\(c5 x i).snd=(Q y w m s X i).snd.snd/\True
 let z:=λ(x:List lA)=>p x+1
 let A:=λ(x:Int)=>W (x+1)
 let B:=λ(x:Nat)(y:List lA)=>decide (x<p y)
 let T:=λ(x m s X y1 u1:Int)=>{tk:=x+m,y:=F9 s X y1 u1 m,w:=tB s X y1 u1 m,h:= - -y1,e:=u1,k:=true:AD}
 let e6:=λ(x y w m s:Int)=>G::d::G::d::I (-tB x y w m s)::E
 let u:=λ(y:List lA)(w m s X y1 u1:Int)=>ah N (z y) λj=>af (B j y) (N.enc (y.getD j g)) ((SV.bF 5 (fF (T w m s X y1 u1)) λx=>e6
  s X y1 u1 m)::SV.int .u64 0::SV.aq::d1::E)
 let e7:=([]:List (Option (Nat×Nat)))
 let e8:=λ(x:List lA)(y:Nat)=>(x.getD y g).fst
 let e9:=λ(x:Nat)(y:List lA)(w m s X y1 u1:Int)=>if B x y=true then(e8 y x).length else fF (T w m s X y1 u1)
 let f0:=λ(x:List lA)(y:Nat)=>(x.getD y g).snd
 let c6:=λ(x:List lA)(y:Nat)=>(f0 x y).snd
 let f1:=λ(x:Nat)(y:List lA)=>if B x y=true then(c6 y x).fst.length else 0
 let c7:=λ(x:List lA)(y w m s X y1:Int)(u1:Nat)=>((u x y w m s X y1).getD u1 g).snd.snd
 ab 3 ((w6 y w h e true n 0 true []/\ab 2 (c9 n/\ab 6 ((C/\C)/\c/\d0))/\J h e=J h e/\d7 h e/\K tk y w=K tk y w/\(tk=tk+0/\(v/\∀(i:Nat),
  r i->q/\c/\c/\c/\y=F9 y w h e 0/\c/\w=tB y w h e 0/\True)/\L)/\M=M/\d9/\C/\c1=c1/\True)/\∀(i:Int)(l:List lA),w6 y w h e true
  n i true l->True/\(decide (i<f n)=true->(0<=i/\i<f n)/\ab 3 ((((d4/\q/\c/\c/\ -h= - - -h/\d6 e)/\(tk+i=tk+i/\(v/\∀(b:Nat),r b
  ->q/\c/\c/\c/\sm (F9 y w h e i)/\c/\sm (tB y w h e i)/\True)/\L)/\c8/\True)/\OkS (F9 y w h e i) (tB y w h e i) (- -h) e/\0<=tk+i/\tk+i<=300
  /\(100<=c2 y w h e i->c2 y w h e i<=1100)/\(c2 y w h e i<=99->tB y w h e i<=0/\F9 y w h e i+lJ (tB y w h e i) e- - -h<=1100)/\(true=false->tk
  +i=0/\tB y w h e i=0))/\ru true/\True/\(false=true->ab 2 (e0 l/\True/\(e1 tk i y w h e n/\e5 l y w h e n/\False/\True)/\True))/\(false=false
  ->True/\1<=1/\(∀(j:Nat),r j->true=true)/\(C/\p l=p l/\z l<=140737488355328/\z l*64<=140737488355328)/\ab 2 (w6 y w h e true n (A i) true
  (u l tk i y w h e)/\(f n-A i).toNat<(f n-i).toNat/\ab 2 (c9 n/\ab 6 ((C/\z l=(u l tk i y w h e).length)/\sm (A i)/\d0))/\J h e=J h e/\d7 h e
  /\K tk y w=K tk y w/\(tk+i+1=tk+A i/\(v/\∀(b:Nat),r b->q/\c/\c/\c/\yN (T tk i y w h e)=F9 y w h e (A i)/\c/\vN (T tk i y w h e)=
  tB y w h e (A i)/\True)/\L)/\M=M/\d9/\e7=e7/\((z l=(u l tk i y w h e).length/\4=c1/\∀(b:Nat),b<z l->(e9 b l tk i y w h e=((u l tk
  i y w h e).getD b g).fst.length/\∀(Z:Nat),Z<e9 b l tk i y w h e->bK (if B b l=true then xf.enc ((e8 l b).getD Z t)else e6 y w h e i)
  (xf.enc (((u l tk i y w h e).getD b g).fst.getD Z t)))/\(if B b l=true then(f0 l b).fst else 0)=((u l tk i y w h e).getD b g).snd.fst/\(f1 b
  l=(c7 l tk i y w h e b).fst.length/\∀(Z:Nat),Z<f1 b l->(c6 l b).fst.getD Z R=(c7 l tk i y w h e b).fst.getD Z R/\True)/\(if B b l
  =true then(c6 l b).snd else 0)=(c7 l tk i y w h e b).snd/\True)/\True)/\True))))/\(decide (i<f n)=false->ab 2 (e0 l/\True/\(e1 tk i y w h e n
  /\e5 l y w h e n/\True/\True)/\True))))=vc12t tk y w h e n:=by kernel_rfl
def T12:List (Nat×bB):=(12,c12)::T17
theorem k17:aH prog T17:=⟨Wu.x,trivial⟩
theorem ruY_0(y w h e:Int):F9 y w h e 0=y:=by unfold F9;rfl
theorem ruV_0(y w h e:Int):tB y w h e 0=w:=by unfold tB;rfl
theorem ru_s{y w h e i:Int}(b:0<=i):stp h e (F9 y w h e i,tB y w h e i)=(F9 y w h e (i+1),tB y w h e (i+1)):=by
 unfold F9 tB;rw[show(i+1).toNat=i.toNat+1 by omega];rfl
theorem run_step{d y w h e i:Int}{k c:Bool}{n:Nat}(p:ue d y w h e k n)(u:0<=i)(C:i<n)(m:c=(k||decide (0<i))):D7 ⟨d+i,F9 y w h e i,tB y w h e i,h,e,c⟩/\yN ⟨d+i,F9 y w h e i,tB y w h e i,h,e,c⟩=F9 y w h e (i+1)/\vN ⟨d+i,F9 y w h e i,tB y w h e i,h,e,c⟩=tB y w h e (i+1)/\
 (List.replicate (fF ⟨d+i,F9 y w h e i,tB y w h e i,h,e,c⟩) (1,0,1,0,-(tB y w h e i)),0,[],0)=Fv y w h e i:=by
 unfold ue at p;obtain⟨t0,t1,D,E,I,o⟩:=p;have r:=ru_s (y:=y) (w:=w) (h:=h) (e:=e) u;have hI:Inv h e (F9 y w h e i,tB y w h e i):=by unfold F9 tB;exact I.itr i.toNat
 have x:Fv y w h e i=(List.replicate (fF ⟨0,F9 y w h e i,tB y w h e i,h,e,true⟩) (1,0,1,0,-(tB y w h e i)),0,[],0):=by unfold Fv;rfl
 obtain⟨_,z,A⟩:=hI.step;have B:c=false->k=false/\i=0:=λe=>by
  rw[e]at m;cases k
  . refine⟨rfl,?_⟩;rw[Bool.false_or]at m;have:=of_decide_eq_false m.symm;omega
  . simp at m
 have j:=hI.low;generalize hA:F9 y w h e i=a at*
 generalize hB:tB y w h e i=b at*
 refine⟨⟨hI.oks,by dsimp only;omega,by dsimp only;omega,z,λq=>⟨j q,A q⟩,λe=>?_⟩,JM Prod.fst r,JM Prod.snd r,x.symm⟩;obtain⟨e1,e2⟩:=B e;obtain⟨F,G⟩:=o e1;subst e2;rw[ruV_0]at hB;exact⟨by dsimp only;omega,by dsimp only;omega⟩
theorem ruL_len{y w h e i:Int}:(yI y w h e i).length=i.toNat:=by unfold yI;simp
theorem ruL_succ{y w h e i:Int}(q:0<=i):yI y w h e (i+1)=yI y w h e i++[Fv y w h e i]:=by
 unfold yI;rw[show(i+1).toNat=i.toNat+1 by omega,Q7,Qx];simp only[J8,Z2];rw[show((i.toNat:Nat):Int)=i by omega]
theorem decO(n:Nat)(V e:Int):Dh.dec [SV.bF 5 n λx=>[I 1,I 0,I 1,I 0,I V],SV.int .u64 e,SV.aq,SV.int .i64 0]=some (List.replicate n (1,0,1,0,V),e,[],0):=by
 have h:mv.dec [SV.bF 5 n λx=>[I 1,I 0,I 1,I 0,I V]]=some (List.replicate n (1,0,1,0,V)):=by
  show some (ah xf n λx=>[I 1,I 0,I 1,I 0,I V])=_
  rw[kj (l:=List.replicate n (1,0,1,0,V)) (by simp) λi j=>by
   rw[J0,Xh,JB j];exact xf.self (1,0,1,0,V)]
 show oB (mv.dec [SV.bF 5 n λx=>[I 1,I 0,I 1,I 0,I V]]) (λa=>oB (rI .u64 (SV.int .u64 e)) λb=>oB (aap.dec [SV.aq]) λc=>oB (rI .i64 (SV.int .i64 0)) λd=>some (a,b,c,d))=_
 rw[h];rfl
theorem pushO(l:List lA)(n:Nat)(V b:Int):(ah Dh (l.length+1) λj=>af (decide (j<l.length)) (Dh.enc (l.getD j ([],0,[],0))) [SV.bF 5 n λx=>[I 1,I 0,I 1,I 0,I V],SV.int .u64 b,SV.aq,SV.int .i64 0])=l++[(List.replicate n (1,0,1,0,V),b,[],0)]:=vQ (C:=Dh) (decO n V b)
theorem p12f{L y w h e:Int}{n:Nat}(z:ue L y w h e false n):vc12f L y w h e n:=by
 have M:=z;unfold ue at M;obtain⟨t0,t1,R,X,_,_⟩:=M;rw[<-vc12f_eq];simp only[aA];simp[-List.getD_eq_getElem?_getD];refine⟨⟨?_,(ruY_0 y w h e).symm,(ruV_0 y w h e).symm⟩,λi=>⟨λl b=>⟨λq=>?_,?_⟩,λl b=>⟨λq=>?_,λq=>?_⟩⟩⟩
 . unfold w6 yI;simp
 ·
  unfold w6 at b;obtain⟨o,A,rfl,m⟩:=b;obtain⟨B,C,D,r⟩:=run_step z o q m;obtain⟨E,F,G,H,J,N⟩:=B;rw[aO (n:=i+1) (by omega) (by omega)];rw[pushO,r,C,D];have u:=ruL_len (y:=y) (w:=w) (h:=h) (e:=e) (i:=i);refine⟨⟨o,q⟩,⟨E,F,G,H,J,N rfl⟩,⟨by omega,by omega⟩,?_,by omega,⟨by omega,rfl,rfl⟩,λj O=>?_⟩
  . unfold w6;exact⟨by omega,by omega,(ruL_succ o).symm,by rw[JJ (show 0<i+1 by omega)];simp⟩
  . have c:∀x:H5,bK (xf.enc x) (xf.enc x):=λx=>xf.ok _ _ (xf.self x) trivial
    by_cases d:j<(yI y w h e i).length
    . rw[show(yI y w h e i++[Fv y w h e i]).getD j ([],0,[],0)=(yI y w h e i).getD j ([],0,[],0) by
       rw[J0,J0,Ka d]]
      simp only[JB d];exact⟨⟨trivial,λk _=>c _⟩,trivial,⟨trivial,λ_ _=>trivial⟩,trivial⟩
    . have p:j=(yI y w h e i).length:=by omega
      rw[show(yI y w h e i++[Fv y w h e i]).getD j ([],0,[],0)=Fv y w h e i by
       rw[J0,Jy (by omega),p];simp]
      rw[<-r];simp only[JA d];refine⟨⟨by simp,λk m=>?_⟩,trivial,⟨by simp,λ_ m=>by omega⟩,trivial⟩;rw[J0,Xh,JB m];exact c (1,0,1,0,-(tB y w h e i))
 . unfold w6 at b;obtain⟨o,A,_,m⟩:=b;have K:=z;unfold ue at K;rw[Bool.false_or]at m;have:=of_decide_eq_false m.symm;omega
 ·
  unfold w6 at b;obtain⟨o,A,rfl,m⟩:=b;obtain⟨B,C,D,r⟩:=run_step z o q m;obtain⟨E,F,G,H,J,N⟩:=B;rw[aO (n:=i+1) (by omega) (by omega)];rw[pushO,r,C,D];have u:=ruL_len (y:=y) (w:=w) (h:=h) (e:=e) (i:=i);refine⟨⟨o,q⟩,⟨E,F,G,H,J⟩,⟨by omega,by omega⟩,?_,by omega,⟨by omega,rfl,rfl⟩,λj O=>?_⟩
  . unfold w6;exact⟨by omega,by omega,(ruL_succ o).symm,by rw[JJ (show 0<i+1 by omega)];simp⟩
  . have c:∀x:H5,bK (xf.enc x) (xf.enc x):=λx=>xf.ok _ _ (xf.self x) trivial
    by_cases d:j<(yI y w h e i).length
    . rw[show(yI y w h e i++[Fv y w h e i]).getD j ([],0,[],0)=(yI y w h e i).getD j ([],0,[],0) by
       rw[J0,J0,Ka d]]
      simp only[JB d];exact⟨⟨trivial,λk _=>c _⟩,trivial,⟨trivial,λ_ _=>trivial⟩,trivial⟩
    . have p:j=(yI y w h e i).length:=by omega
      rw[show(yI y w h e i++[Fv y w h e i]).getD j ([],0,[],0)=Fv y w h e i by
       rw[J0,Jy (by omega),p];simp]
      rw[<-r];simp only[JA d];refine⟨⟨by simp,λk m=>?_⟩,trivial,⟨by simp,λ_ m=>by omega⟩,trivial⟩;rw[J0,Xh,JB m];exact c (1,0,1,0,-(tB y w h e i))
 ·
  unfold w6 at b;obtain⟨o,A,rfl,m⟩:=b;have:i=n:=by omega
  subst this;simp
theorem p12t{r y w h e:Int}{n:Nat}(u:ue r y w h e true n):vc12t r y w h e n:=by
 have z:=u;unfold ue at z;obtain⟨t0,t1,M,N,_,_⟩:=z;rw[<-vc12t_eq];simp only[aA];simp[-List.getD_eq_getElem?_getD];refine⟨⟨?_,(ruY_0 y w h e).symm,(ruV_0 y w h e).symm⟩,λi l b=>⟨λp=>?_,λp=>?_⟩⟩
 . unfold w6 yI;simp
 ·
  unfold w6 at b;obtain⟨o,C,rfl,m⟩:=b;obtain⟨D,E,F,A⟩:=run_step u o p m;obtain⟨G,H,J,K,L,O⟩:=D;rw[aO (n:=i+1) (by omega) (by omega)];rw[pushO,A,E,F];have B:=ruL_len (y:=y) (w:=w) (h:=h) (e:=e) (i:=i);refine⟨⟨o,p⟩,⟨G,H,J,K,L⟩,⟨by omega,by omega⟩,?_,by omega,⟨by omega,rfl,rfl⟩,λj R=>?_⟩
  . unfold w6;exact⟨by omega,by omega,(ruL_succ o).symm,by rw[JJ (show 0<i+1 by omega)];simp⟩
  . have c:∀x:H5,bK (xf.enc x) (xf.enc x):=λx=>xf.ok _ _ (xf.self x) trivial
    by_cases d:j<(yI y w h e i).length
    . rw[show(yI y w h e i++[Fv y w h e i]).getD j ([],0,[],0)=(yI y w h e i).getD j ([],0,[],0) by
       rw[J0,J0,Ka d]]
      simp only[JB d];exact⟨⟨trivial,λk _=>c _⟩,trivial,⟨trivial,λ_ _=>trivial⟩,trivial⟩
    . have q:j=(yI y w h e i).length:=by omega
      rw[show(yI y w h e i++[Fv y w h e i]).getD j ([],0,[],0)=Fv y w h e i by
       rw[J0,Jy (by omega),q];simp]
      rw[<-A];simp only[JA d];refine⟨⟨by simp,λk m=>?_⟩,trivial,⟨by simp,λ_ m=>by omega⟩,trivial⟩;rw[J0,Xh,JB m];exact c (1,0,1,0,-(tB y w h e i))
 ·
  unfold w6 at b;obtain⟨o,C,rfl,m⟩:=b;have:i=n:=by omega
  subst this;simp
theorem k12:aH prog T12:=av k17 hm func12 (by kernel_rfl) (by kernel_rfl) sgRun.ok (by kernel_rfl) (λa=>bif a.2.2.2.2.2.1 then an12t a.1 a.2.1 a.2.2.1 a.2.2.2.1 a.2.2.2.2.1 a.2.2.2.2.2.2 else an12 a.1 a.2.1 a.2.2.1 a.2.2.2.1 a.2.2.2.2.1 false a.2.2.2.2.2.2) λa b=>by
 obtain⟨c,y,w,h,e,k,n⟩:=a;cases k
 . exact p12f b
 . exact p12t b
end Go.Proofs.Big
