import Derived.Test.YtpjiopgakifhaaaGreatZQ
import Derived.Test.YtpjiopgakifhaaaGreatZR
import Derived.Test.YtpjiopgakifhaaaGreatZS
import Derived.Test.YtpjiopgakifhaaaGreatZT
namespace Go.Proofs.Big
set_option linter.unusedVariables false
set_option linter.unusedSimpArgs false
open Go Go.Sx Go.Proofs
set_option linter.unusedSectionVars false
variable [bW]
def At (y:Int×Int) (n:Int) (e:Nat):Prop:=0<=y.2/\y.2.toNat<=e/\n=y.1*2^(e-y.2.toNat)
theorem ec (k:Nat):(0:Int)<2^k:=Int.pow_pos (by omega)
theorem fF (a b:Nat):(2:Int)^(a+b)=2^a*2^b:=Int.pow_add ..
theorem At.up {y:Int×Int} {n:Int} {e:Nat} (h:At y n e) (k:Nat):At y (n*2^k) (e+k):=by
 obtain⟨h1,h2,h3⟩:=h
 refine⟨h1,by omega,?_⟩
 rw [h3,Int.mul_assoc,<-fF]
 congr 2;omega
theorem eD {x k:Int} (hk:0<k):aW (x*k)=aW x:=by
 refine NN ⟨fun h=> ?_,fun h=>Int.mul_neg_of_neg_of_pos h hk⟩ ⟨fun h=> ?_,fun h=>by rw [h];simp⟩
 . rcases(show x<0\/0<=x by omega)with h1|h1
   . exact h1
   . have:=Int.mul_nonneg h1 (Int.le_of_lt hk);omega
 . rcases Int.mul_eq_zero.1 h with h1|h1<;>omega
theorem At.cmp {y w:Int×Int} {n m:Int} {e:Nat} (h:At y n e) (k:At w m e):aW (dd y w)=aW (n-m):=by
 obtain⟨h1,h2,h3⟩:=h
 obtain⟨k1,k2,k3⟩:=k
 have e1:n-m=dd y w*2^(e-(max y.2 w.2).toNat):=by
  unfold dd
  rw [h3,k3,Int.sub_mul,Int.mul_assoc,Int.mul_assoc,<-fF,<-fF]
  congr 3<;>omega
 rw [e1,eD (ec _)]
theorem WZ (p:List Int) (y:Int×Int) (d:Nat) (h:0<=y.2):cY p (y.1*2^d,y.2+d)*2^d=cY p y*2^(d*p.length):=by
 induction p with
 |nil=>rw [nZ,nZ];simp
 |cons x r ih=>
  rw [gU,gU]
  have e1:(y.2+(d:Int)).toNat=y.2.toNat+d:=by omega
  simp only [e1,List.length_cons]
  have e2:(2:Int)^((y.2.toNat+d)*r.length)=2^(y.2.toNat*r.length)*2^(d*r.length):=by rw [Nat.add_mul,fF]
  have e3:(2:Int)^(d*(r.length+1))=2^(d*r.length)*2^d:=by rw [Nat.mul_add,Nat.mul_one,fF]
  rw [e2,e3]
  generalize cY r (y.1*2^d,y.2+d)=A at*
  generalize cY r y=B at*
  generalize (2:Int)^d=D at*
  generalize (2:Int)^(d*r.length)=L at*
  generalize (2:Int)^(y.2.toNat*r.length)=M at*
  have:(A*(y.1*D)+x*(M*L))*D=(A*D)*(y.1*D)+x*(M*L)*D:=by grind
  rw [this,ih]
  grind
theorem At.Cm {y:Int×Int} {n:Int} {e:Nat} (h:At y n e) (p:List Int):aW (cY p y)=aW (cY p (n,(e:Int))):=by
 obtain⟨h1,h2,h3⟩:=h
 have:=WZ p y (e-y.2.toNat) h1
 rw [<-h3,show y.2+((e-y.2.toNat:Nat):Int)=(e:Int) by omega]at this
 rw [<-eD (x:=cY p y) (ec ((e-y.2.toNat)*p.length)),<-this,eD (ec _)]
theorem Np (a b c n:Int) (e:Nat):cY [a,b,c] (n,(e:Int))=a*(2^e*2^e)+b*n*2^e+c*n*n:=by
 rw [gU,gU,gU,nZ]
 simp only [List.length_cons,List.length_nil,Int.toNat_natCast,Nat.mul_zero,Int.pow_zero,Nat.zero_add,Nat.mul_one]
 rw [show e*(1+1)=e+e by omega,fF]
 grind
theorem Mo (a b n:Int) (e:Nat):cY [a,b] (n,(e:Int))=a*2^e+b*n:=by
 rw [gU,gU,nZ]
 simp only [List.length_cons,List.length_nil,Int.toNat_natCast,Nat.mul_zero,Int.pow_zero,Nat.zero_add,Nat.mul_one]
 grind
theorem UN (a n:Int) (e:Nat):cY [a] (n,(e:Int))=a:=by
 rw [gU,nZ];simp
theorem JI (z:Int): ∀(n i:Nat),2^i∣z.natAbs->2^Ed n z i∣z.natAbs/\i<=Ed n z i/\Ed n z i<=i+n
 |0,i,h=>by rw [TT];exact⟨h,by omega,by omega⟩
 |n+1,i,h=>by
  rw [Mu]
  split
  . rename_i h0
    obtain⟨m,hm⟩:=h
    rw [hm,Nat.mul_div_cancel_left _ (Nat.pow_pos (by omega))]at h0
    obtain⟨q1,q2,q3⟩:=JI z n (i+1) (by
     refine⟨m/2,?_⟩
     rw [hm,Nat.pow_succ,Nat.mul_assoc]
     congr 1;omega)
    exact⟨q1,by omega,by omega⟩
  . exact⟨h,by omega,by omega⟩
theorem At.red {z k:Int} {n:Int} {e:Nat} (hk:0<=k) (he:k.toNat<=e) (h:n=z*2^(e-k.toNat)):At (eV z k) n e:=by
 unfold eV
 split
 . rename_i h0
   subst h0
   exact⟨by simp,by simp,by rw [h];simp⟩
 . obtain⟨q1,q2,q3⟩:=JI z k.toNat 0 (by simp)
   generalize Ed k.toNat z 0=t at*
   refine⟨by dsimp only;omega,by dsimp only;omega,?_⟩
   dsimp only
   have hd:z/2^t*2^t=z:=by
    refine Int.ediv_mul_cancel ?_
    have:=Int.natCast_dvd_natCast.2 q1
    rw [Int.dvd_natAbs]at this
    simpa using this
   rw [h]
   conv=>lhs;rw [<-hd]
   rw [Int.mul_assoc,<-fF]
   congr 2;omega
theorem At.JO {y w:Int×Int} {n m:Int} {e:Nat} (h:At y n e) (k:At w m e):At (bb y w) (n+m) (e+1):=by
 obtain⟨h1,h2,h3⟩:=h
 obtain⟨k1,k2,k3⟩:=k
 unfold bb
 refine At.red (by omega) (by omega) ?_
 rw [h3,k3,Int.add_mul,Int.mul_assoc,Int.mul_assoc,<-fF,<-fF]
 congr 3<;>omega
theorem At.sz {y:Int×Int} {n:Int} {e:Nat} (h:At y n e) (h0:0<=n) (h1:n<=2^e):0<=y.1/\y.1<=2^e/\0<=y.2/\y.2<=e:=by
 obtain⟨a1,a2,a3⟩:=h
 have hp:=ec (e-y.2.toNat)
 have hy:0<=y.1:=by
  rcases(show y.1<0\/0<=y.1 by omega)with h|h
  . have:=Int.mul_neg_of_neg_of_pos h hp;omega
  . exact h
 have hm:y.1*1<=y.1*2^(e-y.2.toNat):=Int.mul_le_mul_of_nonneg_left (by omega) hy
 exact⟨hy,by omega,a1,by omega⟩
def qf (a b c n:Int) (e:Nat):Int:=a*(2^e*2^e)+b*n*2^e+c*n*n
def qg (b c n:Int) (e:Nat):Int:=b*2^e+2*c*n
def fX (a b c n:Int) (e:Nat):Int:=if 0<qf a b c n e/\qg b c n e<0 then 2 else if qf a b c n e<0\/(qf a b c n e=0/\qg b c n e<0)then 1 else 0
theorem BR (a b c n:Int) (e:Nat):qg b c n e*qg b c n e=4*c*qf a b c n e+(b*b-4*a*c)*(2^e*2^e):=by
 unfold qg qf;grind
theorem Ye (b c n:Int) (e k:Nat):qg b c (n*2^k) (e+k)=qg b c n e*2^k:=by
 unfold qg;rw [fF];grind
theorem JH (a b c n:Int) (e k:Nat):qf a b c (n*2^k) (e+k)=qf a b c n e*(2^k*2^k):=by
 unfold qf;rw [fF];grind
theorem xh {x k:Int} (hk:0<k):0<x*k↔0<x:=by
 constructor
 . intro h
   rcases(show 0<x\/x<=0 by omega)with h1|h1
   . exact h1
   . have:=Int.mul_nonpos_of_nonpos_of_nonneg h1 (Int.le_of_lt hk);omega
 . exact fun h=>Int.mul_pos h hk
theorem F6 {x k:Int} (hk:0<k):x*k<0↔x<0:=by
 have:=xh (x:= -x) hk
 rw [Int.neg_mul]at this;omega
theorem w7 (a b c n:Int) (e k:Nat):fX a b c (n*2^k) (e+k)=fX a b c n e:=by
 unfold fX
 rw [JH,Ye]
 have hk:=ec k
 have hkk:(0:Int)<2^k*2^k:=Int.mul_pos hk hk
 have z:qf a b c n e*(2^k*2^k)=0↔qf a b c n e=0:=by
  rw [Int.mul_eq_zero];omega
 simp only [xh hkk,F6 hkk,F6 hk,z]
theorem kL (a b c n:Int) (e:Nat):fX a b c n e=0\/fX a b c n e=1\/fX a b c n e=2:=by
 unfold fX;split
 . omega
 . split<;>omega
section
variable {a b c : Int} (hc : 0 < c) (hD : 0 < b * b - 4 * a * c)
include hc hD
theorem L0 {n:Int} {e:Nat} (hf:0<=qf a b c n e):qg b c n e≠0:=by
 intro h0
 have h:=BR a b c n e
 rw [h0]at h
 have:=Int.mul_nonneg (show(0:Int)<=4*c by omega) hf
 have:=Int.mul_pos hD (Int.mul_pos (ec e) (ec e))
 omega
theorem Dl {n:Int} {e:Nat}:fX a b c n e=2↔0<qf a b c n e/\qg b c n e<0:=by
 unfold fX;split
 . rename_i h;simp [h]
 . rename_i h;split
   . simp [h]
   . simp [h]
theorem EY {n:Int} {e:Nat}:fX a b c n e=1↔qf a b c n e<0\/(qf a b c n e=0/\qg b c n e<0):=by
 unfold fX;split
 . rename_i h;constructor
   . intro h;omega
   . intro h;omega
 . split
   . rename_i h;simp [h]
   . rename_i h;simp [h]
theorem HY {n:Int} {e:Nat}:fX a b c n e=0↔0<=qf a b c n e/\0<qg b c n e:=by
 have hn:=fun h=>L0 hc hD (n:=n) (e:=e) h
 unfold fX;split
 . rename_i h;constructor
   . intro h;omega
   . intro h;omega
 . rename_i h0;split
   . rename_i h;constructor
     . intro h;omega
     . intro h;omega
   . rename_i h;constructor
     . intro _
       have:=hn (by omega)
       omega
     . intro _;rfl
omit hc hD in
theorem IQ (n m:Int) (e:Nat):2*(qf a b c m e-qf a b c n e)=(m-n)*(qg b c n e+qg b c m e):=by
 unfold qf qg;grind
omit hc hD in
theorem JB (n m:Int) (e:Nat):qg b c m e-qg b c n e=2*c*(m-n):=by
 unfold qg;grind
theorem Ax {n m:Int} {e:Nat} (h:n<m):qg b c n e<qg b c m e:=by
 have:=JB (b:=b) (c:=c) n m e
 have:=Int.mul_pos (show(0:Int)<2*c by omega) (show 0<m-n by omega)
 omega
theorem wR {n m:Int} {e:Nat} (h:n<m) (hg:qg b c m e<0):qf a b c m e<qf a b c n e:=by
 have h1:=IQ (a:=a) (b:=b) (c:=c) n m e
 have h2:=Ax hc hD (e:=e) h
 have:=Int.mul_neg_of_pos_of_neg (show 0<m-n by omega) (show qg b c n e+qg b c m e<0 by omega)
 omega
theorem Ch {n m:Int} {e:Nat} (h:n<m) (hg:0<qg b c n e):qf a b c n e<qf a b c m e:=by
 have h1:=IQ (a:=a) (b:=b) (c:=c) n m e
 have h2:=Ax hc hD (e:=e) h
 have:=Int.mul_pos (show 0<m-n by omega) (show 0<qg b c n e+qg b c m e by omega)
 omega
theorem Fv {n m:Int} {e:Nat} (h:n<m):fX a b c m e<=fX a b c n e:=by
 have hl:=Ax hc hD (e:=e) h
 rcases kL a b c m e with h1|h1|h1
 . rcases kL a b c n e with h2|h2|h2<;>omega
 . rcases kL a b c n e with h2|h2|h2
   . exfalso
     obtain⟨f1,g1⟩:=(HY hc hD).1 h2
     have:=Ch hc hD (e:=e) h g1
     rcases(EY hc hD).1 h1 with f2|⟨f2,g2⟩<;>omega
   . omega
   . omega
 . obtain⟨f1,g1⟩:=(Dl hc hD).1 h1
   have:=wR hc hD (e:=e) h g1
   have e2:fX a b c n e=2:=(Dl hc hD).2 ⟨by omega,by omega⟩
   omega
theorem Ec {n m k:Int} {e:Nat} (h1:n<m) (h2:m<k) (hn:fX a b c n e=1) (hk:fX a b c k e=1\/qf a b c k e=0):qf a b c m e<0:=by
 have hmn:=Fv hc hD (e:=e) h1
 rcases(show qf a b c m e<0\/0<=qf a b c m e by omega)with h|h
 . exact h
 . exfalso
   have hg:=L0 hc hD h
   rcases(show(qg b c m e)<0\/0<=(qg b c m e) by omega)with g|g
   . have f1:=wR hc hD (e:=e) h1 g
     have g1:=Ax hc hD (e:=e) h1
     have e2:fX a b c n e=2:=(Dl hc hD).2 ⟨by omega,by omega⟩
     omega
   . have f1:=Ch hc hD (e:=e) h2 (by omega)
     have g1:=Ax hc hD (e:=e) h2
     rcases hk with hk|hk
     . have e2:fX a b c k e=0:=(HY hc hD).2 ⟨by omega,by omega⟩
       omega
     . omega
omit hD in
theorem PJ {x p:Int} (hp:0<p) (h:p*p<=x*x) (hx:0<x):p<=x:=by
 rcases(show x<p\/p<=x by omega)with h1|h1
 . have a1:=Int.mul_lt_mul_of_pos_left h1 hx
   have a2:=Int.mul_lt_mul_of_pos_right h1 hp
   omega
 . exact h1
theorem zW {n m:Int} {e:Nat} (hn:fX a b c n e=2) (hm:fX a b c m e=0):2^e<=c*(m-n):=by
 obtain⟨f1,g1⟩:=(Dl hc hD).1 hn
 obtain⟨f2,g2⟩:=(HY hc hD).1 hm
 have hp:=ec e
 have hpp:=Int.mul_pos hp hp
 have s1:=BR a b c n e
 have s2:=BR a b c m e
 have d:=JB (b:=b) (c:=c) n m e
 have t1:=Int.mul_nonneg (show(0:Int)<=4*c by omega) (show 0<=qf a b c n e by omega)
 have t2:=Int.mul_nonneg (show(0:Int)<=4*c by omega) f2
 have t3:1*((2:Int)^e*2^e)<=(b*b-4*a*c)*(2^e*2^e):=Int.mul_le_mul_of_nonneg_right (by omega) (by omega)
 have u1:(2:Int)^e<= -qg b c n e:=PJ hc hp (by rw [Int.neg_mul_neg];omega) (by omega)
 have u2:(2:Int)^e<=qg b c m e:=PJ hc hp (by omega) g2
 rw [Int.mul_assoc]at d
 omega
end
theorem EH {a b c:Int} {e:Nat} {n:Int} (hn:n+1=2^e) (h:(qf a b c n e<=0/\0<a+b+c)\/(0<=qf a b c n e/\a+b+c<0)):(2:Int)^e<=(b.natAbs:Int)+2*(c.natAbs:Int):=by
 have hp:=ec e
 have e1:qf a b c (n+1) e=(a+b+c)*(2^e*2^e):=by rw [hn];unfold qf;grind
 have e2:qf a b c (n+1) e-qf a b c n e=b*2^e+c*(2*n+1):=by unfold qf;grind
 generalize hP:(2:Int)^e=P at*
 have hb1:b*P<=(b.natAbs:Int)*P:=Int.mul_le_mul_of_nonneg_right (by omega) (by omega)
 have hb2: -(b.natAbs:Int)*P<=b*P:=Int.mul_le_mul_of_nonneg_right (by omega) (by omega)
 have hc1:c*(2*n+1)<=(c.natAbs:Int)*(2*n+1):=Int.mul_le_mul_of_nonneg_right (by omega) (by omega)
 have hc2: -(c.natAbs:Int)*(2*n+1)<=c*(2*n+1):=Int.mul_le_mul_of_nonneg_right (by omega) (by omega)
 have hc3:(c.natAbs:Int)*(2*n+1)<=(c.natAbs:Int)*(2*P):=Int.mul_le_mul_of_nonneg_left (by omega) (by omega)
 rw [Int.neg_mul]at hb2 hc2
 have hs:P*P<=((b.natAbs:Int)+2*(c.natAbs:Int))*P:=by
  rw [Int.add_mul,show 2*(c.natAbs:Int)*P=(c.natAbs:Int)*(2*P) by grind]
  rcases h with⟨h1,h2⟩|⟨h1,h2⟩
  . have:1*(P*P)<=(a+b+c)*(P*P):=Int.mul_le_mul_of_nonneg_right (by omega) (Int.le_of_lt (Int.mul_pos hp hp))
    omega
  . have:(a+b+c)*(P*P)<= -1*(P*P):=Int.mul_le_mul_of_nonneg_right (by omega) (Int.le_of_lt (Int.mul_pos hp hp))
    omega
 exact Int.le_of_mul_le_mul_right hs hp
end Go.Proofs.Big
namespace Go.Proofs.Big
set_option linter.unusedVariables false
set_option linter.unusedSimpArgs false
open Go Go.Sx Go.Proofs
set_option linter.unusedSectionVars false
variable [bW]
theorem ll {l:List Int} {i:Nat} (h:l.length<=i):l.getD i 0=0:=by
 rw [List.getD_eq_getElem?_getD,List.getElem?_eq_none h];rfl
theorem fg (q:List Int): ∃k:Int,0<k/\ ∀i,q.getD i 0=k*(ag q).getD i 0:=by
 unfold ag
 split
 . rename_i hc
   rw [mT]at hc⊢
   refine⟨(lu (ae q):Int),by omega,fun i=> ?_⟩
   rw [<-ck q i]
   by_cases h:i<(ae q).length
   . rw [List.getD_eq_getElem?_getD,List.getD_eq_getElem?_getD,List.getElem?_map,List.getElem?_eq_getElem h]
     simp only [Option.map_some,Option.getD_some]
     have hm:(ae q)[i]∈ae q:=List.getElem_mem _
     generalize (ae q)[i]=z at*
     have hd:((lu (ae q):Nat):Int)∣z:=by
      have:=Int.natCast_dvd_natCast.2 (En hm)
      rwa [Int.dvd_natAbs]at this
     exact(Int.mul_tdiv_cancel' hd).symm
   . rw [ll (by omega),ll (by simpa using h)];simp
 . exact⟨1,by omega,fun i=>by rw [ck,Int.one_mul]⟩
theorem Kk {x y k:Int} (hk:0<k) (h:x=k*y):aW x=aW y:=by
 rw [h,Int.mul_comm,eD hk]
theorem alg1 {r0 r1 r2 g0 g1 x0 x1 k1 α β:Int} (h0:r0*α=k1*x0) (h1:r1*α-β*g0=k1*x1) (h2:r2*α-β*g1=0):(x0*g1-x1*g0)*(k1*g1)=(r0*(g1*g1)-r1*g1*g0+r2*(g0*g0))*α:=by grind
theorem alg2 {x0 x1 g0 g1 z k2 α β:Int} (h0:x0*α-β*g0=k2*z) (h1:x1*α-β*g1=0):z*(k2*g1)=(x0*g1-x1*g0)*α:=by grind
theorem alg3 {r1 r2 g0 g1 k1 α β:Int} (h1:r1*α-β*g0=k1*0) (h2:r2*α-β*g1=0):(r1*g1-r2*g0)*α=0:=by grind
theorem alg4 {r0 r1 r2 g0 g1 x0 k1 α:Int} (h0:r0*α=k1*x0) (h1:r1*g1-r2*g0=0):x0*(k1*(g1*g1))=(r0*(g1*g1)-r1*g1*g0+r2*(g0*g0))*α:=by grind
theorem R3 {r g:List Int} (hr:r.length=3) (hg:g.length=2) (hl:0<g.getD 1 0):(jT 3 r g).length<2/\aW ((jT 3 r g).getD 0 0)=aW (r.getD 0 0*(g.getD 1 0*g.getD 1 0)-r.getD 1 0*g.getD 1 0*g.getD 0 0+r.getD 2 0*(g.getD 0 0*g.getD 0 0)):=by
 have hlead:aB g=g.getD 1 0:=by rw [aN,hg]
 have hq: ∀t,0<qA (aB g) t/\t*qA (aB g) t-qB (aB g) t*aB g=0:=fun t=>by
  refine⟨?_,qAB (by omega)⟩
  rw [L7]
  have h1:((Int.gcd (aB g) t:Nat):Int)∣aB g:=Int.gcd_dvd_left ..
  obtain⟨m,hm⟩:=h1
  have h0:0<((Int.gcd (aB g) t:Nat):Int):=by
   have:=Int.gcd_pos_of_ne_zero_left (b:=t) (show aB g≠0 by omega);omega
  have hm0:0<m:=by
   rcases(show m<=0\/0<m by omega)with h|h
   . have:=Int.mul_nonpos_of_nonneg_of_nonpos (Int.le_of_lt h0) h;omega
   . exact h
  generalize ((Int.gcd (aB g) t:Nat):Int)=d at*
  have e:((aB g).natAbs:Int)=d*m:=by omega
  rw [e,Int.mul_ediv_cancel_left _ (by omega)]
  exact hm0
 have top:=fun(r:List Int) (h:g.length<=r.length)=>qO (r:=r) (g:=g) (by omega) h (by omega)
 have st: ∀(r:List Int) (i:Nat),i<r.length->(iX r g).getD i 0=rF r g (qA (aB g) (aB r)) (qB (aB g) (aB r)) (r.length-g.length) i:=fun r i h=>AL r g h
 rw [pN,if_pos (by omega)]
 have t1:=top r (by omega)
 obtain⟨k1,hk1,sc1⟩:=fg (iX r g)
 have hx0:=sc1 0
 have hx1:=sc1 1
 rw [st r 0 (by omega)]at hx0
 rw [st r 1 (by omega)]at hx1
 obtain⟨a1,a2⟩:=hq (aB r)
 have hr2:aB r=r.getD 2 0:=by rw [aN,hr]
 unfold rF at hx0 hx1
 rw [if_neg (by omega)]at hx0
 rw [if_pos (by omega),show 1-(r.length-g.length)=0 by omega]at hx1
 rw [hlead,hr2]at a2
 rw [hlead,hr2]at hx0 hx1 a1
 generalize ag (iX r g)=x at*
 generalize qA (g.getD 1 0) (r.getD 2 0)=α at*
 generalize qB (g.getD 1 0) (r.getD 2 0)=β at*
 by_cases h2:g.length<=x.length
 . rw [pN,if_pos h2]
   have t2:=top x h2
   obtain⟨k2,hk2,sc2⟩:=fg (iX x g)
   have hy0:=sc2 0
   rw [st x 0 (by omega)]at hy0
   obtain⟨b1,b2⟩:=hq (aB x)
   have hx2:aB x=x.getD 1 0:=by rw [aN,show x.length-1=1 by omega]
   unfold rF at hy0
   rw [if_pos (by omega),show 0-(x.length-g.length)=0 by omega]at hy0
   rw [hlead,hx2]at b2 hy0 b1
   rw [mS (by omega)]
   refine⟨by omega,?_⟩
   have e1:=alg2 hy0 b2
   have e2:=alg1 hx0 hx1 a2
   rw [<-eD (x:=(ag (iX x g)).getD 0 0) (Int.mul_pos hk2 hl),e1,eD b1,<-eD (Int.mul_pos hk1 hl),e2,eD a1]
 . rw [mS (by omega)]
   refine⟨by omega,?_⟩
   have hx1':x.getD 1 0=0:=ll (by omega)
   rw [hx1']at hx1
   have e1:=alg3 hx1 a2
   have e3:r.getD 1 0*g.getD 1 0-r.getD 2 0*g.getD 0 0=0:=by
    rcases Int.mul_eq_zero.1 e1 with h|h
    . exact h
    . omega
   have e2:=alg4 hx0 e3
   rw [<-eD (x:=x.getD 0 0) (Int.mul_pos hk1 (Int.mul_pos hl hl)),e2,eD a1]
theorem vS (p:List Int) (i:Nat):(dH p).getD i 0= -(p.getD i 0):=by
 unfold dH
 rw [List.getD_eq_getElem?_getD,List.getD_eq_getElem?_getD,List.getElem?_map]
 cases p[i]?<;>simp
theorem GC {p:List Int} {n:Nat} (h:p.length=n+1) (h0:p.getD n 0≠0):(ae p).length=n+1:=by
 rw [iP (.inr (by rw [aN,h];exact h0))];exact h
theorem kU {p:List Int} {n:Nat} (h:p.length=n+1) (h0:p.getD n 0≠0):(ag p).length=n+1:=by rw [fw];exact GC h h0
theorem CB {p:List Int} (hl:p.length=3) (h2:p.getD 2 0≠0):(eZ p).length=3/\0<(eZ p).getD 2 0/\ ∃m:Int,m≠0/\aW m=aW (p.getD 2 0)/\ ∀i,p.getD i 0=m*(eZ p).getD i 0:=by
 have h3:=kU hl h2
 obtain⟨k,hk,sc⟩:=fg p
 have h0:(ag p).getD 2 0≠0:=fun e=>h2 (by rw [sc 2,e];simp)
 unfold eZ iN
 rw [show(ag p).length-1=2 by omega]
 split
 . rename_i hn
   refine⟨by rw [jz];exact h3,by rw [vS];omega,-k,by omega,?_,fun i=>by rw [vS,sc i];grind⟩
   rw [sc 2,Int.mul_comm,eD hk,gH hn,gH (by omega)]
 . refine⟨h3,by omega,k,by omega,?_,sc⟩
   rw [sc 2,Int.mul_comm,eD hk,jj hk,jj (by omega)]
theorem Ey {F:List Int} (hl:F.length=3) (h2:0<F.getD 2 0):(aX F).length=2/\(aX F).getD 0 0=F.getD 1 0/\(aX F).getD 1 0=2*F.getD 2 0:=by
 have ht:tl F=3:=by rw [<-bn];exact GC hl (by omega)
 have e:lW F (tl F-1)=[F.getD 1 0*1,F.getD 2 0*2]:=by rw [ht];unfold lW;rfl
 have hd:ae (lW F (tl F-1))=lW F (tl F-1):=by
  refine iP (.inr ?_)
  rw [e,aN]
  show F.getD 2 0*2≠0
  omega
 unfold aX
 rw [hd,e]
 refine⟨rfl,?_,?_⟩
 . show F.getD 1 0*1=_;omega
 . show F.getD 2 0*2=_;omega
theorem alg5 {a b c K M A0 A1 A2 B0 B1:Int} (q0:a=K*A0) (q1:b=K*A1) (q2:c=K*A2) (q3:b=M*B0) (q4:2*c=M*B1):(A0*(B1*B1)-A1*B1*B0+A2*(B0*B0))*(K*(M*M))=(4*a*c-b*b)*c:=by
 have:(A0*(B1*B1)-A1*B1*B0+A2*(B0*B0))*(K*(M*M))=(K*A0)*((M*B1)*(M*B1))-(K*A1)*(M*B1)*(M*B0)+(K*A2)*((M*B0)*(M*B0)):=by grind
 rw [this,<-q0,<-q1,<-q2,<-q3,<-q4]
 grind
theorem Gu {F G:List Int} {a b c k m:Int} (hF:F.length=3) (hG:G.length=2) (hc:0<c) (hk:0<k) (hm:0<m) (f0:a=k*F.getD 0 0) (f1:b=k*F.getD 1 0) (f2:c=k*F.getD 2 0) (g0:b=m*G.getD 0 0) (g1:2*c=m*G.getD 1 0):
 (dh F G).length<2/\aW ((dh F G).getD 0 0)=aW (4*a*c-b*b):=by
 have hF2:F.getD 2 0≠0:=fun e=>by rw [e]at f2;omega
 have hG1:G.getD 1 0≠0:=fun e=>by rw [e]at g1;omega
 have lF:=kU hF hF2
 have lG:=kU hG hG1
 obtain⟨k1,hk1,s1⟩:=fg F
 obtain⟨k2,hk2,s2⟩:=fg G
 rw [s1 0]at f0;rw [s1 1]at f1;rw [s1 2]at f2;rw [s2 0]at g0;rw [s2 1]at g1
 have hg:0<(ag G).getD 1 0:=by
  rcases(show(ag G).getD 1 0<=0\/0<(ag G).getD 1 0 by omega)with h|h
  . have h1:=Int.mul_nonpos_of_nonneg_of_nonpos (Int.le_of_lt hk2) h
    have h2:=Int.mul_nonpos_of_nonneg_of_nonpos (Int.le_of_lt hm) h1
    omega
  . exact h
 have key:=R3 lF lG hg
 unfold dh
 rw [lF]
 refine⟨key.1,?_⟩
 rw [key.2]
 generalize (ag F).getD 0 0=A0 at*
 generalize (ag F).getD 1 0=A1 at*
 generalize (ag F).getD 2 0=A2 at*
 generalize (ag G).getD 0 0=B0 at*
 generalize (ag G).getD 1 0=B1 at*
 have hmk:0<m*k2:=Int.mul_pos hm hk2
 have hkk:0<k*k1:=Int.mul_pos hk hk1
 have e:(A0*(B1*B1)-A1*B1*B0+A2*(B0*B0))*((k*k1)*((m*k2)*(m*k2)))=(4*a*c-b*b)*c:=by
  exact alg5 (by rw [Int.mul_assoc];exact f0) (by rw [Int.mul_assoc];exact f1) (by rw [Int.mul_assoc];exact f2) (by rw [Int.mul_assoc];exact g0) (by rw [Int.mul_assoc];exact g1)
 rw [<-eD (x:=A0*(B1*B1)-A1*B1*B0+A2*(B0*B0)) (Int.mul_pos hkk (Int.mul_pos hmk hmk)),e,eD hc]
theorem TY {l:List Int} (h:l.length=1):l=[l.getD 0 0]:=by
 match l,h with
 |[x],_=>rfl
theorem NW {l:List Int} (h:l.length=2):l=[l.getD 0 0,l.getD 1 0]:=by
 match l,h with
 |[x,y],_=>rfl
theorem Yq {l:List Int} (h:l.length=3):l=[l.getD 0 0,l.getD 1 0,l.getD 2 0]:=by
 match l,h with
 |[x,y,z],_=>rfl
theorem Bg (p:List Int):bE p=if(eZ p).length<2 then eZ p else if(eU (eZ p) (aX (eZ p))).length<2 then eZ p else mz (eZ p) (eU (eZ p) (aX (eZ p))):=by unfold bE;rfl
theorem sD (p:List Int):aO p=if(bE p).length=0 then []else bE p::Ja (wB p).length (bE p) (wB p):=by unfold aO;rfl
theorem N0 {l:List Int} (h:l.length<2) (h0:l.getD 0 0≠0):l.length=1:=by
 rcases(show l.length=0\/l.length=1 by omega)with h1|h1
 . exact absurd (ll (by omega)) h0
 . exact h1
theorem Gq {p:List Int} (hp:gp p) (hl:p.length=3) (h2:p.getD 2 0≠0):(eU (eZ p) (aX (eZ p))).length<2↔(eZ p).getD 1 0*(eZ p).getD 1 0-4*(eZ p).getD 0 0*(eZ p).getD 2 0≠0:=by
 obtain⟨l3,hc,_⟩:=CB hl h2
 obtain⟨d2,e0,e1⟩:=Ey l3 hc
 have hsz:bj 90 (eZ p):=by unfold gp at hp;exact yU hp.1
 generalize eZ p=F at*
 obtain⟨k,hk,sF⟩:=fg F
 obtain⟨m,hm,sG⟩:=fg (aX F)
 have lA:(ag F).length=3:=kU l3 (by omega)
 have lB:(ag (aX F)).length=2:=kU d2 (by omega)
 have key:=Gu (F:=ag F) (G:=ag (aX F)) lA lB hc hk hm (sF 0) (sF 1) (sF 2) (by rw [<-e0];exact sG 0) (by rw [<-e1];exact sG 1)
 have e:eU F (aX F)=iN (lT (ag (aX F)).length (ag F) (ag (aX F))):=by unfold eU;rfl
 have ht:=(jf (an (bP hsz) (show 90<=100 by omega)) (an (bP (jg hsz (by omega)).1) (show 91<=100 by omega)) (by omega) (me (dP (aX F)) (by omega))).2.2
 rw [e,iH,lB,jb,if_pos (by omega),jb]
 obtain⟨k1,k2⟩:=key
 constructor
 . intro h hD
   have h0:aW ((dh (ag F) (ag (aX F))).getD 0 0)=0:=by rw [k2,ju];omega
   rw [ju]at h0
   have hn:(dh (ag F) (ag (aX F))).length=0:=by
    rcases(show(dh (ag F) (ag (aX F))).length=0\/(dh (ag F) (ag (aX F))).length=1 by omega)with h1|h1
    . exact h1
    . exfalso
      have h3:=lQ (p:=dh (ag F) (ag (aX F))) (by rw [ht];omega)
      rw [ht,aN,h1]at h3
      exact h3 h0
   rw [if_neg (by omega)]at h
   omega
 . intro hD
   have h0:(dh (ag F) (ag (aX F))).getD 0 0≠0:=fun h0=>by
    rw [h0,gV]at k2
    have:=ju.1 k2.symm
    omega
   have h1:=N0 k1 h0
   rw [if_pos (by omega),mG]
   omega
theorem H3 {p:List Int} (hp:gp p) (hl:p.length=3) (h2:p.getD 2 0≠0) (hD:(eZ p).getD 1 0*(eZ p).getD 1 0-4*(eZ p).getD 0 0*(eZ p).getD 2 0≠0):
 bE p=eZ p/\ ∃B z m,aO p=[eZ p,B,[z]]/\aW z=aW ((eZ p).getD 1 0*(eZ p).getD 1 0-4*(eZ p).getD 0 0*(eZ p).getD 2 0)/\B.length=2/\0<m/\(eZ p).getD 1 0=m*B.getD 0 0/\2*(eZ p).getD 2 0=m*B.getD 1 0:=by
 obtain⟨l3,hc,_⟩:=CB hl h2
 obtain⟨d2,e0,e1⟩:=Ey l3 hc
 have hf:bE p=eZ p:=by rw [Bg,if_neg (by omega),if_pos ((Gq hp hl h2).2 hD)]
 have hB:wB p=ag (aX (eZ p)):=by unfold wB;rw [hf]
 refine⟨hf,?_⟩
 rw [sD,hf,hB,if_neg (by omega)]
 generalize eZ p=F at*
 obtain⟨m,hm,sG⟩:=fg (aX F)
 have lB:(ag (aX F)).length=2:=kU d2 (by omega)
 have key:=Gu (F:=F) (G:=ag (aX F)) l3 lB hc (k:=1) (by omega) hm (Int.one_mul _).symm (Int.one_mul _).symm (Int.one_mul _).symm (by rw [<-e0];exact sG 0) (by rw [<-e1];exact sG 1)
 obtain⟨k1,k2⟩:=key
 have h0:(dh F (ag (aX F))).getD 0 0≠0:=fun h0=>by
  rw [h0,gV]at k2
  have:=ju.1 k2.symm
  omega
 have h1:=N0 k1 h0
 have h3:=TY h1
 refine⟨ag (aX F),-(dh F (ag (aX F))).getD 0 0,m,?_,?_,lB,hm,by rw [<-e0];exact sG 0,by rw [<-e1];exact sG 1⟩
 . rw [lB,rN,if_neg (by omega),rN,if_neg (by rw [jz];omega),zh]
   congr 3
   rw [h3];unfold dH;rfl
 . have:=k2
   generalize (dh F (ag (aX F))).getD 0 0=w at*
   unfold aW at this⊢
   split at this<;>split<;>(try split at this)<;>(try split)<;>(try split at this)<;>(try split)<;>omega
theorem KZ {p:List Int} (hp:gp p) (hl:(bE p).length<=2):(aO p).length<2\/ ∃g0 g1 w,bE p=[g0,g1]/\g1≠0/\aO p=[[g0,g1],[w]]/\aW w=aW g1:=by
 obtain⟨f1,f2,f3⟩:=ma hp
 rw [sD]
 have hB:wB p=ag (aX (bE p)):=by unfold wB;rfl
 rw [hB]
 generalize bE p=G at*
 have hd:=jg f2 f1
 rcases(show G.length=0\/G.length=1\/G.length=2 by omega)with h|h|h
 . left;rw [if_pos h];simp
 . left
   have:=cN (aX G)
   rw [if_neg (by omega),show(ag (aX G)).length=0 by omega,zh];simp
 . right
   have hlast:G.getD 1 0≠0:=by
    have h3:=lQ (p:=G) (by rw [f3];omega)
    rw [f3,aN,h]at h3;exact h3
   have ht:tl G=2:=by rw [<-bn,f3];exact h
   have e:aX G=[G.getD 1 0]:=by
    have e1:lW G (tl G-1)=[G.getD 1 0*1]:=by rw [ht];unfold lW;rfl
    unfold aX
    rw [iP (.inr ?_),e1,Int.mul_one]
    rw [e1,aN];show G.getD 1 0*1≠0;omega
   obtain⟨m,hm,sG⟩:=fg (aX G)
   have lB:(ag (aX G)).length=1:=kU (by rw [e];rfl) (by rw [e];exact hlast)
   have hw:G.getD 1 0=m*(ag (aX G)).getD 0 0:=by rw [<-sG 0,e];rfl
   refine⟨G.getD 0 0,G.getD 1 0,(ag (aX G)).getD 0 0,NW h,hlast,?_,?_⟩
   . rw [if_neg (by omega),lB,rN,if_neg (by omega),zh,<-NW h,<-TY lB]
   . exact(Kk hm hw).symm
theorem ue (x:Int):(x<0/\aW x= -1)\/(x=0/\aW x=0)\/(0<x/\aW x=1):=by
 rcases(show x<0\/x=0\/0<x by omega)with h|h|h
 . exact .inl ⟨h,gH h⟩
 . exact .inr (.inl ⟨h,by rw [h,gV]⟩)
 . exact .inr (.inr ⟨h,jj h⟩)
structure Xi (l : List (List Int)) (a b c : Int) : Prop where
 c0 : 0 < c
 ex : ∃ B z m, l = [[a, b, c], B, [z]] /\ aW z = aW (b * b - 4 * a * c) /\ B.length = 2 /\ 0 < m /\ b = m * B.getD 0 0 /\ 2 * c = m * B.getD 1 0
theorem AP {a b c n:Int} {e:Nat} {y:Int×Int} (h:At y n e):aW (cY [a,b,c] y)=aW (qf a b c n e):=by
 rw [h.Cm,Np];rfl
theorem Tw {b c m n:Int} {B:List Int} {e:Nat} {y:Int×Int} (h:At y n e) (hl:B.length=2) (hm:0<m) (h0:b=m*B.getD 0 0) (h1:2*c=m*B.getD 1 0):aW (cY B y)=aW (qg b c n e):=by
 rw [h.Cm,NW hl,Mo]
 have e:qg b c n e=(B.getD 0 0*2^e+B.getD 1 0*n)*m:=by unfold qg;rw [h0,h1];grind
 rw [e,eD hm]
theorem BZ {l:List (List Int)} {a b c n:Int} {e:Nat} {y:Int×Int} (hl:Xi l a b c) (hD:0<b*b-4*a*c) (h:At y n e):ep l y=fX a b c n e:=by
 obtain⟨B,z,m,rfl,hz,hB,hm,h0,h1⟩:=hl.ex
 have hc:=hl.c0
 have e1:=AP (a:=a) (b:=b) (c:=c) h
 have e2:=Tw h hB hm h0 h1
 have e3:aW (cY [z] y)=1:=by rw [h.Cm,UN,hz,jj hD]
 have hn:=fun hf=>L0 hc hD (n:=n) (e:=e) hf
 rw [tV,gB,gB,gB,ub,e1,e2,e3]
 have v1:=fun h=>(EY hc hD (n:=n) (e:=e)).2 h
 have v2:=fun h=>(Dl hc hD (n:=n) (e:=e)).2 h
 have v0:=fun h=>(HY hc hD (n:=n) (e:=e)).2 h
 rcases ue (qf a b c n e)with⟨f1,f2⟩|⟨f1,f2⟩|⟨f1,f2⟩<;>rcases ue (qg b c n e)with⟨g1,g2⟩|⟨g1,g2⟩|⟨g1,g2⟩<;>rw [f2,g2]
 . rw [v1 (.inl f1)];rfl
 . rw [v1 (.inl f1)];rfl
 . rw [v1 (.inl f1)];rfl
 . rw [v1 (.inr ⟨f1,g1⟩)];rfl
 . exact absurd g1 (hn (by omega))
 . rw [v0 ⟨by omega,g1⟩];rfl
 . rw [v2 ⟨f1,g1⟩];rfl
 . exact absurd g1 (hn (by omega))
 . rw [v0 ⟨by omega,g1⟩];rfl
theorem YT (n:Int):0<=n*n:=by
 rcases Int.le_total 0 n with h|h
 . exact Int.mul_nonneg h h
 . exact Int.mul_nonneg_of_nonpos_of_nonpos h h
theorem IS {l:List (List Int)} {a b c n:Int} {e:Nat} {y:Int×Int} (hl:Xi l a b c) (hD:b*b-4*a*c<0) (h:At y n e):ep l y=1:=by
 obtain⟨B,z,m,rfl,hz,hB,hm,h0,h1⟩:=hl.ex
 have hc:=hl.c0
 have e1:=AP (a:=a) (b:=b) (c:=c) h
 have e2:=Tw h hB hm h0 h1
 have e3:aW (cY [z] y)= -1:=by rw [h.Cm,UN,hz,gH hD]
 have hf:0<qf a b c n e:=by
  have s:=BR a b c n e
  have s1:=YT (qg b c n e)
  have s2:=Int.mul_neg_of_neg_of_pos hD (Int.mul_pos (ec e) (ec e))
  rcases(show qf a b c n e<=0\/0<qf a b c n e by omega)with h|h
  . have:=Int.mul_nonpos_of_nonneg_of_nonpos (show(0:Int)<=4*c by omega) h;omega
  . exact h
 rw [tV,gB,gB,gB,ub,e1,e2,e3,jj hf]
 rcases ue (qg b c n e)with⟨g1,g2⟩|⟨g1,g2⟩|⟨g1,g2⟩<;>rw [g2]<;>rfl
theorem JG {g0 g1 w n:Int} {e:Nat} {y:Int×Int} (hg:g1≠0) (hw:aW w=aW g1) (h:At y n e):ep [[g0,g1],[w]] y=if(g0*2^e+g1*n)*g1<0 then 1 else 0:=by
 have e1:aW (cY [g0,g1] y)=aW (g0*2^e+g1*n):=by rw [h.Cm,Mo]
 have e3:aW (cY [w] y)=aW g1:=by rw [h.Cm,UN,hw]
 rw [tV,gB,gB,ub,e1,e3]
 generalize g0*2^e+g1*n=x
 have vp:x*g1<0->(if x*g1<0 then(1:Int)else 0)=1:=fun h=>if_pos h
 have vn: ¬x*g1<0->(if x*g1<0 then(1:Int)else 0)=0:=fun h=>if_neg h
 rcases ue x with⟨f1,f2⟩|⟨f1,f2⟩|⟨f1,f2⟩<;>rcases ue g1 with⟨q1,q2⟩|⟨q1,q2⟩|⟨q1,q2⟩<;>rw [f2,q2]
 . rw [vn (by have:=Int.mul_pos_of_neg_of_neg f1 q1;omega)];rfl
 . exact absurd q1 hg
 . rw [vp (Int.mul_neg_of_neg_of_pos f1 q1)];rfl
 . rw [vn (by rw [f1];simp)];rfl
 . exact absurd q1 hg
 . rw [vn (by rw [f1];simp)];rfl
 . rw [vp (Int.mul_neg_of_pos_of_neg f1 q1)];rfl
 . exact absurd q1 hg
 . rw [vn (by have:=Int.mul_pos f1 q1;omega)];rfl
theorem Zr (k:Nat):pw k=2^(32*k):=fE k
theorem uA {a b:Nat} (h:a<=b):(2:Int)^a<=2^b:=by exact_mod_cast Nat.pow_le_pow_right (by omega) h
theorem Sf {a b:Nat} (h:a<b):(2:Int)^a<2^b:=by exact_mod_cast Nat.pow_lt_pow_right (by omega) h
theorem At.dp {y:Int×Int} {n:Int} {e:Nat} (h:At y n e) (h0:0<=n) (h1:n<=2^e) (he:e<=30000):dp y:=by
 obtain⟨a1,a2,a3,a4⟩:=h.sz h0 h1
 unfold Big.dp
 have:=Sf (show e<32*10000 by omega)
 rw [Zr]
 generalize (2:Int)^(32*10000)=X at*
 generalize (2:Int)^e=Y at*
 exact⟨by omega,a3,by omega⟩
theorem At.bM {y:Int×Int} {n:Int} {e:Nat} {p:List Int} (h:At y n e) (h0:0<=n) (h1:n<=2^e) (he:e<=30000) (hp:bj 1000 p) (hl:p.length<=100):bM p y:=by
 obtain⟨a1,a2,a3,a4⟩:=h.sz h0 h1
 unfold Big.bM
 have:=Sf (show e<32*1000 by omega)
 rw [Zr]
 generalize (2:Int)^(32*1000)=X at*
 generalize (2:Int)^e=Y at*
 exact⟨hp,hl,by omega,a3,by omega⟩
def EE (l:List (List Int)):Prop:=l.length<=10/\ ∀p∈l,bj 1000 p/\p.length<=100
theorem EE.pre {l:List (List Int)} (hl:EE l) {y:Int×Int} {n:Int} {e:Nat} (h:At y n e) (h0:0<=n) (h1:n<=2^e) (he:e<=30000):jO l y:=by
 unfold jO;exact⟨hl.1,fun p hp=>h.bM h0 h1 he (hl.2 p hp).1 (hl.2 p hp).2⟩
structure Cell (a b c : Int) (lo hi : Int × Int) (n : Int) (e : Nat) (f t : Int) : Prop where
 lo : At lo n e
 hi : At hi (n + 1) e
 n0 : 0 <= n
 n1 : n + 1 <= 2 ^ e
 f : fX a b c n e = f
 t : fX a b c (n + 1) e = t
section
variable {a b c : Int} (hc : 0 < c) (hD : 0 < b * b - 4 * a * c)
include hc hD
theorem Cell.left {lo hi:Int×Int} {n:Int} {e:Nat} {f t:Int} (h:Cell a b c lo hi n e f t):Cell a b c lo (bb lo hi) (2*n) (e+1) f (fX a b c (2*n+1) (e+1)):=by
 have h1:=h.lo.up 1
 have h2:=h.lo.JO h.hi
 have h3:=w7 a b c n e 1
 rw [Int.pow_succ,Int.pow_zero,Int.one_mul,Int.mul_comm]at h1 h3
 rw [show n+(n+1)=2*n+1 by omega]at h2
 have:=h.n0;have:=h.n1
 exact⟨h1,h2,by omega,by rw [Int.pow_succ];omega,by rw [h3];exact h.f,rfl⟩
theorem Cell.right {lo hi:Int×Int} {n:Int} {e:Nat} {f t:Int} (h:Cell a b c lo hi n e f t):Cell a b c (bb lo hi) hi (2*n+1) (e+1) (fX a b c (2*n+1) (e+1)) t:=by
 have h1:=h.hi.up 1
 have h2:=h.lo.JO h.hi
 have h3:=w7 a b c (n+1) e 1
 rw [Int.pow_succ,Int.pow_zero,Int.one_mul,show(n+1)*2=2*n+1+1 by omega]at h1 h3
 rw [show n+(n+1)=2*n+1 by omega]at h2
 have:=h.n0;have:=h.n1
 exact⟨h2,h1,by omega,by rw [Int.pow_succ];omega,rfl,by rw [h3];exact h.t⟩
theorem Cell.deep {lo hi:Int×Int} {n:Int} {e:Nat} (h:Cell a b c lo hi n e 2 0):2^e<=c:=by
 have:=zW hc hD h.f h.t
 rw [show n+1-n=1 by omega]at this
 omega
theorem Cell.ord {lo hi:Int×Int} {n:Int} {e:Nat} {f t:Int} (h:Cell a b c lo hi n e f t):t<=f/\0<=t/\f<=2:=by
 have h1:=Fv hc hD (e:=e) (show n<n+1 by omega)
 rw [h.f,h.t]at h1
 have h2:=kL a b c n e
 have h3:=kL a b c (n+1) e
 rw [h.f]at h2;rw [h.t]at h3
 omega
def Pair (a b c:Int) (F:List Int) (l:List ao):Prop:= ∃x m y n e,l=[(F,x,m),(F,m,y)]/\Cell a b c x m n e 2 1/\Cell a b c m y (n+1) e 1 0
theorem yI {l:List (List Int)} (hl:Xi l a b c) (hs:EE l) (hK:c<2^2880): ∀{k:Nat} {lo hi:Int×Int} {n:Int} {e:Nat} {f t:Int},Cell a b c lo hi n e f t->c<2^(e+k)->e<=2881->
 CA k l lo hi f t/\(bJ k l lo hi f t).length=(f-t).toNat/\(f-t=1->bJ k l lo hi f t=[(l.getD 0 [],lo,hi)])/\(f-t=2->Pair a b c (l.getD 0 []) (bJ k l lo hi f t))
 |0,lo,hi,n,e,f,t,h,hk,he=>by
  have ho:=h.ord hc hD
  have h2:f-t≠2:=fun h2=>by
   have h':Cell a b c lo hi n e 2 0:=by
    have e1:f=2:=by omega
    have e2:t=0:=by omega
    rw [e1,e2]at h;exact h
   have:=h'.deep hc hD
   rw [Nat.add_zero]at hk;omega
  have hl0:0<l.length:=by obtain⟨B,z,m,rfl,_⟩:=hl.ex;simp
  refine⟨Tj.2 ⟨hl0,by omega,by omega⟩,?_,fun h1=> ?_,fun h=>absurd h h2⟩
  . rw [zA];split
    . rename_i h0;rw [h0];rfl
    . rw [show f-t=1 by omega];rfl
  . rw [zA,if_neg (by omega)]
 |k+1,lo,hi,n,e,f,t,h,hk,he=>by
  have ho:=h.ord hc hD
  have hl0:0<l.length:=by obtain⟨B,z,m,rfl,_⟩:=hl.ex;simp
  by_cases h2:f-t=2
  . have e1:f=2:=by omega
    have e2:t=0:=by omega
    subst e1;subst e2
    have hd:=h.deep hc hD
    have he2:e<2880:=by
     rcases(show e<2880\/2880<=e by omega)with h|h
     . exact h
     . have:=uA h;omega
    have L:=h.left hc hD
    have R:=h.right hc hD
    have hm:ep l (bb lo hi)=fX a b c (2*n+1) (e+1):=BZ hl hD L.hi
    obtain⟨l1,l2,l3,l4⟩:=yI hl hs hK (k:=k) L (by rw [show e+1+k=e+(k+1) by omega];exact hk) (by omega)
    obtain⟨r1,r2,r3,r4⟩:=yI hl hs hK (k:=k) R (by rw [show e+1+k=e+(k+1) by omega];exact hk) (by omega)
    rw [<-hm]at l1 l2 l3 l4 r1 r2 r3 r4
    have ol:=L.ord hc hD
    rw [<-hm]at ol
    have n0:=h.n0
    have n1:=h.n1
    have hL1:=L.n1
    have hpre:=hs.pre L.hi (by omega) hL1 (by omega)
    have hA:At (bb lo hi) (2*n+1) (e+1):=L.hi
    have hy:=hA.sz (by omega) hL1
    refine⟨BQ.2 ⟨hl0,by omega, .inr (.inr ⟨h.lo.dp n0 (by omega) (by omega),h.hi.dp (by omega) n1 (by omega),by omega,hpre,l1,r1,by rw [l2,r2];omega⟩)⟩,?_,fun h=>by omega,fun _=> ?_⟩
    . rw [jF,if_neg (by omega),if_neg (by omega),List.length_append,l2,r2];omega
    . rw [jF,if_neg (by omega),if_neg (by omega)]
      generalize hat:ep l (bb lo hi)=q at*
      rcases(show q=0\/q=1\/q=2 by omega)with h0|h0|h0
      . subst h0
        rw [List.eq_nil_of_length_eq_zero (l:=bJ k l (bb lo hi) hi 0 0) (by rw [r2];rfl),List.append_nil]
        exact l4 (by omega)
      . subst h0
        rw [l3 (by omega),r3 (by omega)]
        rw [<-hm]at L R
        exact⟨lo,bb lo hi,hi,2*n,e+1,rfl,L,R⟩
      . subst h0
        rw [List.eq_nil_of_length_eq_zero (l:=bJ k l lo (bb lo hi) 2 2) (by rw [l2];rfl),List.nil_append]
        exact r4 (by omega)
  . refine⟨BQ.2 ⟨hl0,by omega,by omega⟩,?_,fun h1=> ?_,fun h=>absurd h h2⟩
    . rw [jF];split
      . rename_i h0;rw [h0];rfl
      . rw [if_pos (by omega),show f-t=1 by omega];rfl
    . rw [jF,if_neg (by omega),if_pos h1]
end
end Go.Proofs.Big
namespace Go.Proofs.Big
set_option linter.unusedVariables false
set_option linter.unusedSimpArgs false
open Go Go.Sx Go.Proofs
set_option linter.unusedSectionVars false
variable [bW]
theorem At.one (e:Nat):At y1 (2^e) e:=by unfold y1;exact⟨by simp,by simp,by simp⟩
structure Iv (q : ao) (n : Int) (e : Nat) : Prop where
 lo : At q.2.1 n e
 hi : At q.2.2 (n + 1) e
 n0 : 0 <= n
 n1 : n + 1 <= 2 ^ e
theorem Iv.ex {q:ao} {n:Int} {e:Nat} (h:Iv q n e):Ac q=false:=by
 rw [Iz,h.lo.cmp h.hi,gH (by omega)];rfl
theorem Iv.JO {q:ao} {n:Int} {e:Nat} (h:Iv q n e):At (bb q.2.1 q.2.2) (2*n+1) (e+1):=by
 have:=h.lo.JO h.hi
 rwa [show n+(n+1)=2*n+1 by omega]at this
theorem Iv.lo1 {q:ao} {n:Int} {e:Nat} (h:Iv q n e):At q.2.1 (2*n) (e+1):=by
 have:=h.lo.up 1
 rwa [Int.pow_succ,Int.pow_zero,Int.one_mul,Int.mul_comm]at this
theorem Iv.YE {q:ao} {n:Int} {e:Nat} (h:Iv q n e):At q.2.2 (2*n+1+1) (e+1):=by
 have:=h.hi.up 1
 rwa [Int.pow_succ,Int.pow_zero,Int.one_mul,show(n+1)*2=2*n+1+1 by omega]at this
theorem Iv.side {q:ao} {n:Int} {e:Nat} (h:Iv q n e):gn q (bb q.2.1 q.2.2)=if aW (cY q.1 (bb q.2.1 q.2.2))=0 then 0 else if aW (cY q.1 (bb q.2.1 q.2.2))=aW (cY q.1 q.2.2)then-1 else 1:=by
 rw [vf,h.ex,h.JO.cmp h.lo1,h.JO.cmp h.YE,show 2*n+1-2*n=1 by omega,show 2*n+1-(2*n+1+1)= -1 by omega,jj (show(0:Int)<1 by omega),gH (show(-1:Int)<0 by omega)]
 rfl
theorem Iv.step {q:ao} {n:Int} {e:Nat} (h:Iv q n e):(Iv (ai q) (2*n) (e+1)/\ai q=(q.1,q.2.1,bb q.2.1 q.2.2)/\gn q (bb q.2.1 q.2.2)<=0)\/(Iv (ai q) (2*n+1) (e+1)/\ai q=(q.1,bb q.2.1 q.2.2,q.2.2)/\0<gn q (bb q.2.1 q.2.2)):=by
 have n0:=h.n0
 have n1:=h.n1
 have hp:(2:Int)^(e+1)=2^e*2:=Int.pow_succ ..
 rw [BS,h.ex]
 simp only [Bool.false_eq_true,if_false]
 by_cases hs:gn q (bb q.2.1 q.2.2)<=0
 . left;rw [if_pos hs];exact⟨⟨h.lo1,h.JO,by omega,by omega⟩,rfl,hs⟩
 . right;rw [if_neg hs];exact⟨⟨h.JO,h.YE,by omega,by omega⟩,rfl,by omega⟩
theorem Iv.pre {q:ao} {n:Int} {e:Nat} (h:Iv q n e) (he:e<=29990) (hp:bj 1000 q.1) (hl:q.1.length<=100):dA q:=by
 have n0:=h.n0
 have n1:=h.n1
 have h2:(2:Int)^(e+1)=2^e*2:=Int.pow_succ ..
 unfold dA ql
 exact⟨⟨h.lo.dp n0 (by omega) (by omega),h.hi.dp (by omega) n1 (by omega),h.hi.bM (by omega) n1 (by omega) hp hl⟩,h.JO.dp (by omega) (by omega) (by omega),h.JO.bM (by omega) (by omega) (by omega) hp hl⟩
theorem Iv.gA {q:ao} {n:Int} {e:Nat} (h:Iv q n e):gA q=decide (n+1<2^e):=by
 unfold Big.gA
 rw [h.hi.cmp (At.one e),decide_eq_decide,xd];omega
structure EC (q : ao) (n : Int) (e : Nat) : Prop where
 iv : Iv q n e
 one : n + 1 = 2 ^ e -> (cY q.1 (n, (e : Int)) <= 0 /\ 0 < cY q.1 y1) \/ (0 <= cY q.1 (n, (e : Int)) /\ cY q.1 y1 < 0)
theorem EC.step {q:ao} {n:Int} {e:Nat} (h:EC q n e) (h1:n+1=2^e): ∃m,EC (ai q) m (e+1):=by
 have hp:(2:Int)^(e+1)=2^e*2:=Int.pow_succ ..
 rcases h.iv.step with⟨i,e1,s⟩|⟨i,e1,s⟩
 . exact⟨_,i,fun h2=>by omega⟩
 . refine⟨_,i,fun h2=> ?_⟩
   rw [h.iv.side]at s
   have e2:(ai q).1=q.1:=by rw [e1]
   rw [e2]
   have hm:=h.iv.JO.Cm q.1
   have ht:aW (cY q.1 q.2.2)=aW (cY q.1 y1):=by
    have a:=h.iv.hi.Cm q.1
    have b:=(At.one e).Cm q.1
    rw [h1]at a
    rw [a,b]
   rw [hm,ht]at s
   split at s
   . omega
   . rename_i s0
     split at s
     . omega
     . rename_i s1
       rcases h.one h1 with⟨_,o⟩|⟨_,o⟩
       . left
         rw [jj o]at s1
         rcases ue (cY q.1 (2*n+1,((e+1:Nat):Int)))with⟨f1,f2⟩|⟨f1,f2⟩|⟨f1,f2⟩
         . exact⟨by omega,o⟩
         . exact absurd f2 s0
         . exact absurd f2 s1
       . right
         rw [gH o]at s1
         rcases ue (cY q.1 (2*n+1,((e+1:Nat):Int)))with⟨f1,f2⟩|⟨f1,f2⟩|⟨f1,f2⟩
         . exact absurd f2 s1
         . exact absurd f2 s0
         . exact⟨by omega,o⟩
theorem Dr (a b c:Int):cY [a,b,c] y1=a+b+c:=by
 have:=Np a b c 1 0
 simp only [Int.pow_zero,Int.mul_one]at this
 exact this
theorem C7 (a b:Int):cY [a,b] y1=a+b:=by
 have:=Mo a b 1 0
 simp only [Int.pow_zero,Int.mul_one]at this
 exact this
def Z5 (p:List Int) (K:Int):Prop:=(∃a b c,p=[a,b,c]/\(b.natAbs:Int)+2*(c.natAbs:Int)<K)\/ ∃a b,p=[a,b]/\(b.natAbs:Int)<K
theorem EC.deep {q:ao} {n:Int} {e:Nat} {K:Int} (h:EC q n e) (hq:Z5 q.1 K) (h1:n+1=2^e):2^e<K:=by
 have o:=h.one h1
 rcases hq with⟨a,b,c,hp,hK⟩|⟨a,b,hp,hK⟩
 . rw [hp,Np,Dr]at o
   have:=EH (a:=a) (b:=b) (c:=c) h1 o
   omega
 . rw [hp,Mo,C7]at o
   have:=EH (a:=a) (b:=b) (c:=0) (e:=e) (n:=n) h1 (by
    have e1:qf a b 0 n e=(a*2^e+b*n)*2^e:=by unfold qf;grind
    have hp:=ec e
    rw [e1,Int.add_zero]
    rcases o with⟨o1,o2⟩|⟨o1,o2⟩
    . exact .inl ⟨Int.mul_nonpos_of_nonpos_of_nonneg o1 (Int.le_of_lt hp),o2⟩
    . exact .inr ⟨Int.mul_nonneg o1 (Int.le_of_lt hp),o2⟩)
   simp at this;omega
theorem P7 {K:Int} (hK:K<=2^2882): ∀{k:Nat} {q:ao} {n:Int} {e:Nat},EC q n e->Z5 q.1 K->bj 1000 q.1->q.1.length<=100->K<=2^(e+k)->e<=2883->po gA ai dA (k+1) q
 |0,q,n,e,h,hq,h1,h2,hk,he=>by
  refine⟨h.iv.pre (by omega) h1 h2, .inl ?_⟩
  rw [h.iv.gA,decide_eq_true_eq]
  have:=h.iv.n1
  rcases(show n+1<2^e\/n+1=2^e by omega)with h3|h3
  . exact h3
  . have:=h.deep hq h3
    rw [Nat.add_zero]at hk;omega
 |k+1,q,n,e,h,hq,h1,h2,hk,he=>by
  refine⟨h.iv.pre (by omega) h1 h2,?_⟩
  have:=h.iv.n1
  rcases(show n+1<2^e\/n+1=2^e by omega)with h3|h3
  . left;rw [h.iv.gA,decide_eq_true_eq];exact h3
  . right
    have hd:=h.deep hq h3
    have he2:e<2882:=by
     rcases(show e<2882\/2882<=e by omega)with h|h
     . exact h
     . have:=uA h;omega
    obtain⟨m,hm⟩:=h.step h3
    have e2:(ai q).1=q.1:=by
     rcases h.iv.step with⟨_,e1,_⟩|⟨_,e1,_⟩<;>rw [e1]
    exact P7 hK hm (by rw [e2];exact hq) (by rw [e2];exact h1) (by rw [e2];exact h2) (by rw [show e+1+k=e+(k+1) by omega];exact hk) (by omega)
theorem uV {K:Int} (hK:K<=2^2882) {q:ao} {n:Int} {e:Nat} (h:EC q n e) (hq:Z5 q.1 K) (h1:bj 1000 q.1) (h2:q.1.length<=100) (he:e<=2883):C1 q:=by
 unfold C1
 have:=P7 hK (k:=2999) h hq h1 h2 (by have:=uA (show 2882<=e+2999 by omega);omega) he
 exact this
structure NC (a b c : Int) (q : ao) (n : Int) (e : Nat) (f t : Int) : Prop where
 F : q.1 = [a, b, c]
 cell : Cell a b c q.2.1 q.2.2 n e f t
theorem NC.iv {a b c:Int} {q:ao} {n:Int} {e:Nat} {f t:Int} (h:NC a b c q n e f t):Iv q n e:=⟨h.cell.lo,h.cell.hi,h.cell.n0,h.cell.n1⟩
section
variable {a b c : Int} (hc : 0 < c) (hD : 0 < b * b - 4 * a * c)
include hc hD
theorem NC.step {q:ao} {n:Int} {e:Nat} {f t:Int} (h:NC a b c q n e f t) (hft:(f=2/\t=1)\/(f=1/\t=0)): ∃m,NC a b c (ai q) m (e+1) f t/\2*n<=m/\m<=2*n+1:=by
 have L:=h.cell.left hc hD
 have R:=h.cell.right hc hD
 have oL:=L.ord hc hD
 have oR:=R.ord hc hD
 have hs:=h.iv.side
 have eM:aW (cY q.1 (bb q.2.1 q.2.2))=aW (qf a b c (2*n+1) (e+1)):=by rw [h.F];exact AP h.iv.JO
 have eH:aW (cY q.1 q.2.2)=aW (qf a b c (2*n+1+1) (e+1)):=by rw [h.F];exact AP h.iv.YE
 rw [eM,eH]at hs
 have cL:=L.f
 have cM:=L.t
 have cH:=R.t
 generalize hq:fX a b c (2*n+1) (e+1)=k at*
 rcases h.iv.step with⟨i,e1,s⟩|⟨i,e1,s⟩
 . rw [hs]at s
   have hk:k=t:=by
    rcases(show k=t\/k=f by omega)with h1|h1
    . exact h1
    . exfalso
      rcases hft with⟨rfl,rfl⟩|⟨rfl,rfl⟩
      . rw [h1]at hq
        obtain⟨f1,g1⟩:=(Dl hc hD).1 hq
        rw [jj f1]at s
        rcases(EY hc hD).1 cH with f2|⟨f2,g2⟩
        . rw [gH f2]at s;simp at s
        . rw [f2,gV]at s;simp at s
      . rw [h1]at hq
        obtain⟨f2,g2⟩:=(HY hc hD).1 cH
        rcases(EY hc hD).1 hq with f1|⟨f1,g1⟩
        . rw [gH f1]at s
          rcases ue (qf a b c (2*n+1+1) (e+1))with⟨x1,x2⟩|⟨x1,x2⟩|⟨x1,x2⟩
          . omega
          . rw [x2]at s;simp at s
          . rw [x2]at s;simp at s
        . have f3:=wR hc hD (a:=a) (e:=e+1) (show 2*n<2*n+1 by omega) g1
          have g3:=Ax hc hD (e:=e+1) (show 2*n<2*n+1 by omega)
          have:=(Dl hc hD (n:=2*n) (e:=e+1)).2 ⟨by omega,by omega⟩
          omega
   rw [hk]at L
   refine⟨2*n,⟨by rw [e1];exact h.F,by rw [e1];exact L⟩,by omega,by omega⟩
 . rw [hs]at s
   have hk:k=f:=by
    rcases(show k=t\/k=f by omega)with h1|h1
    . exfalso
      rcases hft with⟨rfl,rfl⟩|⟨rfl,rfl⟩
      . rw [h1]at hq
        rcases(EY hc hD).1 hq with f1|⟨f1,g1⟩
        . rw [gH f1]at s
          rcases(EY hc hD).1 cH with f2|⟨f2,g2⟩
          . rw [gH f2]at s;simp at s
          . have:=wR hc hD (a:=a) (e:=e+1) (show 2*n+1<2*n+1+1 by omega) g2
            omega
        . rw [f1,gV]at s;simp at s
      . rw [h1]at hq
        obtain⟨f1,g1⟩:=(HY hc hD).1 hq
        have f2:=Ch hc hD (a:=a) (e:=e+1) (show 2*n+1<2*n+1+1 by omega) g1
        rcases ue (qf a b c (2*n+1) (e+1))with⟨x1,x2⟩|⟨x1,x2⟩|⟨x1,x2⟩
        . omega
        . rw [x2]at s;simp at s
        . rw [x2,jj (show 0<qf a b c (2*n+1+1) (e+1) by omega)]at s;simp at s
    . exact h1
   rw [hk]at R
   refine⟨2*n+1,⟨by rw [e1];exact h.F,by rw [e1];exact R⟩,by omega,by omega⟩
theorem ui {f t:Int} (hft:(f=2/\t=1)\/(f=1/\t=0)): ∀{k:Nat} {q:ao} {n:Int} {e:Nat},NC a b c q n e f t->po gA ai dA k q-> ∃m e',NC a b c (itF gA ai k q) m e' f t/\m+1<2^e'/\e'<=e+k/\ ∃j,e+j=e'/\n*2^j<=m/\m+1<=(n+1)*2^j
 |0,_,_,_,_,h=>h.elim
 |k+1,q,n,e,h,hk=>by
  simp only [itF]
  cases hd:gA q with
  |true=>
   rw [h.iv.gA,decide_eq_true_eq]at hd
   exact⟨n,e,h,hd,by omega,0,rfl,by simp,by simp⟩
  |false=>
   obtain⟨_,h2⟩:=hk
   rw [hd]at h2
   obtain⟨m,hm,m1,m2⟩:=h.step hc hD hft
   obtain⟨m',e',g1,g2,g3,j,g4,g5,g6⟩:=ui hft hm (h2.resolve_left (by simp))
   refine⟨m',e',g1,g2,by omega,j+1,by omega,?_,?_⟩
   . have:n*2^(j+1)=(2*n)*2^j:=by rw [Int.pow_succ];grind
     rw [this]
     exact Int.le_trans (Int.mul_le_mul_of_nonneg_right m1 (Int.le_of_lt (ec j))) g5
   . have:(n+1)*2^(j+1)=(2*n+2)*2^j:=by rw [Int.pow_succ];grind
     rw [this]
     exact Int.le_trans g6 (Int.mul_le_mul_of_nonneg_right (by omega) (Int.le_of_lt (ec j)))
theorem JN {q1 q2:ao} {n1 n2:Int} {e:Nat} (h1:Iv q1 n1 e) (h2:Iv q2 n2 e):jR (q1,q2)=decide (n1+1<n2):=by
 unfold jR
 dsimp only
 rw [h1.hi.cmp h2.lo,decide_eq_decide,xd];omega
theorem HU (hs:bj 1000 [a,b,c]): ∀{k:Nat} {q1 q2:ao} {n1 n2:Int} {e:Nat},NC a b c q1 n1 e 2 1->NC a b c q2 n2 e 1 0->n1<n2->2*c<2^(e+k)->e+k<=29000->po jR ke zK (k+1) (q1,q2)
 |0,q1,q2,n1,n2,e,h1,h2,hn,hk,he=>by
  refine⟨by unfold zK;exact⟨h1.iv.pre (by omega) (by rw [h1.F];exact hs) (by rw [h1.F];simp),h2.iv.pre (by omega) (by rw [h2.F];exact hs) (by rw [h2.F];simp)⟩, .inl ?_⟩
  rw [JN hc hD h1.iv h2.iv,decide_eq_true_eq]
  rcases(show n1+1<n2\/n2=n1+1 by omega)with h|h
  . exact h
  . exfalso
    have:=zW hc hD h1.cell.f h2.cell.t
    rw [h,show n1+1+1-n1=2 by omega]at this
    rw [Nat.add_zero]at hk;omega
 |k+1,q1,q2,n1,n2,e,h1,h2,hn,hk,he=>by
  refine⟨by unfold zK;exact⟨h1.iv.pre (by omega) (by rw [h1.F];exact hs) (by rw [h1.F];simp),h2.iv.pre (by omega) (by rw [h2.F];exact hs) (by rw [h2.F];simp)⟩, .inr ?_⟩
  obtain⟨m1,g1,a1,a2⟩:=h1.step hc hD (.inl ⟨rfl,rfl⟩)
  obtain⟨m2,g2,b1,b2⟩:=h2.step hc hD (.inr ⟨rfl,rfl⟩)
  have:=HU hs (k:=k) g1 g2 (by omega) (by rw [show e+1+k=e+(k+1) by omega];exact hk) (by omega)
  have e1:ke (q1,q2)=(ai q1,ai q2):=by unfold ke;rfl
  rw [e1];exact this
theorem JD : ∀{k:Nat} {q1 q2:ao} {n1 n2:Int} {e:Nat},NC a b c q1 n1 e 2 1->NC a b c q2 n2 e 1 0->n1<n2->po jR ke zK k (q1,q2)-> ∃m1 m2 e',NC a b c (itF jR ke k (q1,q2)).1 m1 e' 2 1/\NC a b c (itF jR ke k (q1,q2)).2 m2 e' 1 0/\m1+1<m2/\e'<=e+k/\(n2+1<2^e->m2+1<2^e')
 |0,_,_,_,_,_,_,_,_,h=>h.elim
 |k+1,q1,q2,n1,n2,e,h1,h2,hn,hk=>by
  simp only [itF]
  cases hd:jR (q1,q2)with
  |true=>
   rw [JN hc hD h1.iv h2.iv,decide_eq_true_eq]at hd
   exact⟨n1,n2,e,h1,h2,hd,by omega,fun h=>h⟩
  |false=>
   obtain⟨_,h3⟩:=hk
   rw [hd]at h3
   have h3:=h3.resolve_left (by simp)
   obtain⟨m1,g1,a1,a2⟩:=h1.step hc hD (.inl ⟨rfl,rfl⟩)
   obtain⟨m2,g2,b1,b2⟩:=h2.step hc hD (.inr ⟨rfl,rfl⟩)
   have e1:ke (q1,q2)=(ai q1,ai q2):=by unfold ke;rfl
   rw [e1]at h3⊢
   obtain⟨m1',m2',e',x1,x2,x3,x4,x5⟩:=JD g1 g2 (by omega) h3
   refine⟨m1',m2',e',x1,x2,x3,by omega,fun h=>x5 ?_⟩
   rw [Int.pow_succ];omega
end
end Go.Proofs.Big
namespace Go.Proofs.Big
set_option linter.unusedVariables false
set_option linter.unusedSimpArgs false
open Go Go.Sx Go.Proofs
set_option linter.unusedSectionVars false
variable [bW]
theorem uX : ∀{k:Nat} {q:ao} {n:Int} {e:Nat},Iv q n e->po gA ai dA k q-> ∃m e',Iv (itF gA ai k q) m e'/\e'<=e+k/\m+1<2^e'/\(itF gA ai k q).1=q.1
 |0,_,_,_,_,h=>h.elim
 |k+1,q,n,e,h,hk=>by
  simp only [itF]
  cases hd:gA q with
  |true=>
   rw [h.gA,decide_eq_true_eq]at hd
   exact⟨n,e,h,by omega,hd,rfl⟩
  |false=>
   obtain⟨_,h2⟩:=hk
   rw [hd]at h2
   have h2:=h2.resolve_left (by simp)
   rcases h.step with⟨i,e1,_⟩|⟨i,e1,_⟩
   . obtain⟨m,e',a1,a2,a3,a4⟩:=uX i h2
     exact⟨m,e',a1,by omega,a3,by rw [show(if false=true then q else itF gA ai k (ai q))=itF gA ai k (ai q)from rfl,a4,e1]⟩
   . obtain⟨m,e',a1,a2,a3,a4⟩:=uX i h2
     exact⟨m,e',a1,by omega,a3,by rw [show(if false=true then q else itF gA ai k (ai q))=itF gA ai k (ai q)from rfl,a4,e1]⟩
theorem m9 (a:ao):pH a=itF gA ai 3000 a:=by unfold pH;rfl
theorem LF (s:ao×ao):vc s=itF jR ke 3000 s:=by unfold vc;rfl
theorem rm (a:ao):C1 a=po gA ai dA 3000 a:=by unfold C1;rfl
theorem L8 (q:ao):yK [q]=[q]:=by unfold yK;rfl
theorem HR (q r:ao):yK [q,r]=[(vc (q,r)).1,(vc (q,r)).2]:=by unfold yK;rfl
theorem yL (l:List ao):pj 0 l=yK l:=by unfold pj;rfl
theorem MQ (l:List ao):pj 1 l=l:=by unfold pj;rfl
theorem okK_0 :Lo []:=by unfold Lo;exact⟨by simp,fun h=>by simp at h,fun i hi=>by simp at hi⟩
theorem brk_0 {p:List Int} (h:b6 p=[]):aC p=[]:=by rw [uS,h];exact gr _
theorem YW {q:ao} (h:C1 q):Lo [q]:=by
 unfold Lo
 refine⟨by simp,fun h=>by simp at h,fun i hi=> ?_⟩
 have hi0:i=0:=by simp at hi;omega
 subst hi0
 rw [gr,yL,L8]
 exact h
theorem Z1 {p:List Int} {q:ao} (h:b6 p=[q]):aC p=[pH q]:=by
 rw [uS,h,show([q]:List ao).length=0+1 from rfl,kG,gr,yL,L8];rfl
theorem aah {q r s t:ao} (hs:vc (q,r)=(s,t)) (h:il r q) (h2:po jR ke zK 3000 (q,r)) (h3:C1 s) (h4:C1 t):Lo [q,r]:=by
 unfold Lo
 refine⟨by simp,fun _=>⟨h,h2⟩,fun i hi=> ?_⟩
 have hi0:i=0\/i=1:=by simp at hi;omega
 rcases hi0 with rfl|rfl
 . rw [gr,yL,HR,hs];exact h3
 . rw [show(1:Nat)=0+1 from rfl,kG,gr,yL,HR,hs,MQ];exact h4
theorem XP {p:List Int} {q r s t:ao} (h:b6 p=[q,r]) (hs:vc (q,r)=(s,t)):aC p=[pH s,pH t]:=by
 rw [uS,h,show([q,r]:List ao).length=1+1 from rfl,kG,MQ,show(1:Nat)=0+1 from rfl,kG,gr,yL,HR,hs];rfl
theorem At.uni {y w:Int×Int} {n m:Int} {e f:Nat} (h:At y n e) (k:At w m f):At y (n*2^f) (e+f)/\At w (m*2^e) (e+f):=by
 refine⟨h.up f,?_⟩
 have:=k.up e
 rwa [Nat.add_comm]at this
theorem At.btw {y w:Int×Int} {n m:Int} {e f:Nat} (h:At y n e) (k:At w m f) (h0:0<=n) (h1:n<=2^e) (k0:0<=m) (k1:m<=2^f):At (bb y w) (n*2^f+m*2^e) (e+f+1)/\0<=n*2^f+m*2^e/\n*2^f+m*2^e<=2^(e+f+1):=by
 obtain⟨a,b⟩:=h.uni k
 have pe:=ec e
 have pf:=ec f
 refine⟨a.JO b,?_,?_⟩
 . exact Int.add_nonneg (Int.mul_nonneg h0 (Int.le_of_lt pf)) (Int.mul_nonneg k0 (Int.le_of_lt pe))
 . have a1:n*2^f<=2^e*2^f:=Int.mul_le_mul_of_nonneg_right h1 (Int.le_of_lt pf)
   have a2:m*2^e<=2^f*2^e:=Int.mul_le_mul_of_nonneg_right k1 (Int.le_of_lt pe)
   rw [Int.pow_succ,fF,Int.mul_comm (2^f)]at*
   have:m*2^e<=2^f*2^e:=Int.mul_le_mul_of_nonneg_right k1 (Int.le_of_lt pe)
   rw [Int.mul_comm (2^f) (2^e)]at this
   omega
theorem rp {p:List Int} (h:ae p=p):fD [p]=eY p/\(eF p=true->gI [p]=true)/\(eF p=false->bq [p]=[p]/\gI [p]=decide (0<gj p)):=by
 have e1:=xr [] p
 have e2:=yR [] p
 have e3:=zY [] p
 rw [List.nil_append,h]at e1 e2 e3
 have z1:fD []=false:=by unfold fD;rfl
 have z2:bq []=[]:=by unfold bq;rfl
 have z3:gI []=true:=by unfold gI bq;rfl
 rw [z1,Bool.false_or]at e1
 rw [z2,List.nil_append]at e2
 rw [z3,Bool.true_and]at e3
 refine⟨e1,fun ha=>by rw [e3,ha];rfl,fun ha=>⟨by rw [e2,ha];rfl,by rw [e3,ha];rfl⟩⟩
theorem xf {p:List Int} (h:ae p=p) (hn:eY p=true):aJ [p]=(d0,false):=zn (by rw [(rp h).1];exact hn)
theorem DD {p:List Int} (h:ae p=p) (hn:eY p=false) (ha:eF p=true\/0<gj p):aJ [p]=(JQ (0,0),true):=by
 obtain⟨t1,t2,t3⟩:=rp h
 refine Gg (by rw [t1];exact hn) ?_
 cases hc:eF p with
 |true=>exact t2 hc
 |false=>rw [(t3 hc).2,decide_eq_true (ha.resolve_left (by rw [hc];simp))]
theorem Ge {p:List Int} (h:ae p=p) (hn:eY p=false) (ha:eF p=false) (hb:gj p<=0):aJ [p]=jE [p] (aC p) (aC p).length 0:=by
 obtain⟨t1,t2,t3⟩:=rp h
 rw [BC (by rw [t1];exact hn) (by rw [(t3 ha).2,decide_eq_false (by omega)]),(t3 ha).1];rfl
theorem D6 (p:List Int) (y:Int×Int):jS [p] y=decide (0<aW (cY p y)):=by unfold jS;simp
theorem V8 (p:List Int):jE [p] [] 0 0=(d0,false):=nO _ _ _
theorem Uy (p:List Int) (q:ao):jE [p] [q] 1 0=if 0<aW (cY p (bb q.2.2 y1))then(q,true)else(d0,false):=by
 rw [oi,nO,D6,tF]
 simp
theorem WI (p:List Int) (q r:ao) (h:0<aW (cY p (bb q.2.2 r.2.1))):jE [p] [q,r] 2 0=(q,true):=by
 rw [oi,D6,tF]
 simp [h]
theorem oA {p:List Int} (hp:eO p) (ht:ae p=p) (h:eY p=false->eF p=false->gj p<=0->okB p/\(aC p).length<=2/\ ∀q∈aC p,∃n e,Iv q n e/\e<=7000):lP [p]:=by
 obtain⟨t1,t2,t3⟩:=rp ht
 unfold lP
 refine⟨by simp,fun q hq=>by rw [List.mem_singleton.1 hq];exact hp,fun hn ha=> ?_⟩
 have hal:eF p=false:=by
  cases hc:eF p with
  |true=>rw [t2 hc]at ha;cases ha
  |false=>rfl
 obtain⟨u1,u2⟩:=t3 hal
 rw [u2]at ha
 obtain⟨h1,h2,h3⟩:=h (by rw [<-t1];exact hn) hal (by simpa using ha)
 rw [u1]
 refine⟨by unfold qJ;exact⟨rfl,h1⟩,h2,fun i hi=> ?_⟩
 obtain⟨n,e,hv,he⟩:=h3 _ (uk hi)
 have n0:=hv.n0
 have n1:=hv.n1
 refine⟨hv.lo.dp n0 (by omega) (by omega),hv.hi.dp (by omega) n1 (by omega),fun q hq=> ?_⟩
 rw [List.mem_singleton.1 hq]
 obtain⟨s1,s2⟩:=ta hp
 show bM p (mZ (aC p) i)
 rw [tF]
 have hi:i<(aC p).length:=hi
 by_cases hl:i+1<(aC p).length
 . rw [if_pos hl]
   obtain⟨m,f,hw,hf⟩:=h3 _ (uk hl)
   have m0:=hw.n0
   have m1:=hw.n1
   obtain⟨b1,b2,b3⟩:=hv.hi.btw hw.lo (by omega) n1 m0 (by omega)
   exact b1.bM b2 b3 (by omega) (an s1 (by omega)) (by omega)
 . rw [if_neg hl]
   obtain⟨b1,b2,b3⟩:=hv.hi.btw (At.one 0) (by omega) n1 (by decide) (by decide)
   exact b1.bM b2 b3 (by omega) (an s1 (by omega)) (by omega)
end Go.Proofs.Big
