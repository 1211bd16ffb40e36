import Derived.Test.YtpjiopgakifhaaaGreatRA
import Derived.Test.YtpjiopgakifhaaaGreatRQ
import Derived.Test.YtpjiopgakifhaaaGreatRR
import Derived.Test.YtpjiopgakifhaaaGreatRS
import Derived.Test.YtpjiopgakifhaaaGreatRT
import Derived.Test.YtpjiopgakifhaaaGreatRG
set_option linter.unusedSectionVars false
set_option linter.unusedSimpArgs false
set_option linter.unusedVariables false
set_option maxRecDepth 100000
namespace Go.Proofs.Big
open Go Go.Sx Go.Proofs
variable [bW]
def At(y:Int×Int)(n:Int)(e:Nat):Prop:=0<=y.2/\y.2.toNat<=e/\n=y.1*2^(e-y.2.toNat)
theorem gg(k:Nat):(0:Int)<2^k:=JZ (by omega)
theorem om(a b:Nat):(2:Int)^(a+b)=2^a*2^b:=Int.pow_add ..
theorem At.up{y:Int×Int}{n:Int}{e:Nat}(h:At y n e)(k:Nat):At y (n*2^k) (e+k):=by
 obtain⟨b,d,c⟩:=h;refine⟨b,by omega,?_⟩;rw[c,Jk,<-om]
 congr 2;omega
theorem ti{x k:Int}(c:0<k):aW (x*k)=aW x:=by
 refine NN ⟨λh=>?_,λh=>KC h c⟩ ⟨λh=>?_,λh=>by rw[h];simp⟩
 . rcases(show x<0\/0<=x by omega)with b|b
   . exact b
   . have:=Ja b (Ju c);omega
 . rcases JW.1 h with b|b<;>omega
theorem At.cmp{y w:Int×Int}{n m:Int}{e:Nat}(h:At y n e)(k:At w m e):aW (dd y w)=aW (n-m):=by
 obtain⟨i,j,b⟩:=h;obtain⟨o,p,c⟩:=k;have d:n-m=dd y w*2^(e-(max y.2 w.2).toNat):=by
  unfold dd;rw[b,c,Int.sub_mul,Jk,Jk,<-om,<-om]
  congr 3<;>omega
 rw[d,ti (gg _)]
theorem hor_up(p:Ω)(y:Int×Int)(d:Nat)(h:0<=y.2):cY p (y.1*2^d,y.2+d)*2^d=cY p y*2^(d*p.length):=by
 induction p with
 |nil=>rw[nZ,nZ];simp
 |cons x r b=>
  rw[gU,gU];have c:(y.2+(d:Int)).toNat=y.2.toNat+d:=by omega
  simp only[c,Jc];have e:(2:Int)^((y.2.toNat+d)*r.length)=2^(y.2.toNat*r.length)*2^(d*r.length):=by rw[Ji,om]
  have i:(2:Int)^(d*(r.length+1))=2^(d*r.length)*2^d:=by rw[Nat.mul_add,JU,om]
  rw[e,i];generalize cY r (y.1*2^d,y.2+d)=A at*
  generalize cY r y=B at*
  generalize (2:Int)^d=D at*
  generalize (2:Int)^(d*r.length)=L at*
  generalize (2:Int)^(y.2.toNat*r.length)=M at*
  have:(A*(y.1*D)+x*(M*L))*D=(A*D)*(y.1*D)+x*(M*L)*D:=by grind
  rw[this,b]
  grind
theorem At.horS{y:Int×Int}{n:Int}{e:Nat}(h:At y n e)(p:Ω):aW (cY p y)=aW (cY p (n,(e:Int))):=by
 obtain⟨b,d,c⟩:=h;have:=hor_up p y (e-y.2.toNat) b;rw[<-c,show y.2+((e-y.2.toNat:Nat):Int)=(e:Int) by omega]at this;rw[<-ti (x:=cY p y) (gg ((e-y.2.toNat)*p.length)),<-this,ti (gg _)]
theorem hor3(a b c n:Int)(e:Nat):cY [a,b,c] (n,(e:Int))=a*(2^e*2^e)+b*n*2^e+c*n*n:=by
 rw[gU,gU,gU,nZ];simp only[Jc,Kf,K7,Nat.mul_zero,Kc,Jg,JU];rw[show e*(1+1)=e+e by omega,om]
 grind
theorem hor2(a b n:Int)(e:Nat):cY [a,b] (n,(e:Int))=a*2^e+b*n:=by
 rw[gU,gU,nZ];simp only[Jc,Kf,K7,Nat.mul_zero,Kc,Jg,JU]
 grind
theorem hor1(a n:Int)(e:Nat):cY [a] (n,(e:Int))=a:=by
 rw[gU,nZ];simp
theorem tzF_dvd(z:Int):∀(n i:Nat),2^i∣z.natAbs->2^Ed n z i∣z.natAbs/\i<=Ed n z i/\Ed n z i<=i+n
 |0,i,h=>by rw[TT];exact⟨h,by omega,by omega⟩
 |n+1,i,h=>by
  rw[Mu];split
  . rename_i b;obtain⟨m,hm⟩:=h;rw[hm,Nat.mul_div_cancel_left _ (Z4 (by omega))]at b;obtain⟨c,d,e⟩:=tzF_dvd z n (i+1) (by
     refine⟨m/2,?_⟩;rw[hm,Xi,Nat.mul_assoc]
     congr 1;omega)
    exact⟨c,by omega,by omega⟩
  . exact⟨h,by omega,by omega⟩
theorem At.red{z k:Int}{n:Int}{e:Nat}(i:0<=k)(j:k.toNat<=e)(h:n=z*2^(e-k.toNat)):At (eV z k) n e:=by
 unfold eV;split
 . rename_i b;subst b;exact⟨by simp,by simp,by rw[h];simp⟩
 . obtain⟨c,m,o⟩:=tzF_dvd z k.toNat 0 (by simp);generalize Ed k.toNat z 0=t at*
   refine⟨by dsimp only;omega,by dsimp only;omega,?_⟩;dsimp only;have d:z/2^t*2^t=z:=by
    refine Int.ediv_mul_cancel ?_;have:=Int.natCast_dvd_natCast.2 c;rw[Int.dvd_natAbs]at this;simpa using this
   rw[h]
   conv=>lhs;rw[<-d]
   rw[Jk,<-om]
   congr 2;omega
theorem At.mid{y w:Int×Int}{n m:Int}{e:Nat}(h:At y n e)(k:At w m e):At (dj y w) (n+m) (e+1):=by
 obtain⟨d,i,b⟩:=h;obtain⟨j,o,c⟩:=k;unfold dj;refine At.red (by omega) (by omega) ?_;rw[b,c,Qo,Jk,Jk,<-om,<-om]
 congr 3<;>omega
theorem At.sz{y:Int×Int}{n:Int}{e:Nat}(h:At y n e)(i:0<=n)(j:n<=2^e):0<=y.1/\y.1<=2^e/\0<=y.2/\y.2<=e:=by
 obtain⟨c,k,m⟩:=h;have d:=gg (e-y.2.toNat);have b:0<=y.1:=by
  rcases(show y.1<0\/0<=y.1 by omega)with h|h
  . have:=KC h d;omega
  . exact h
 have hm:y.1*1<=y.1*2^(e-y.2.toNat):=Jt (by omega) b;exact⟨b,by omega,c,by omega⟩
theorem pos_mul{x k:Int}(c:0<k):0<x*k↔0<x:=by
 constructor
 . intro h;rcases(show 0<x\/x<=0 by omega)with b|b
   . exact b
   . have:=Int.mul_nonpos_of_nonpos_of_nonneg b (Ju c);omega
 . exact λh=>Je h c
section
variable {a b c : Int} (hc : 0 < c) (hD : 0 < b * b - 4 * a * c)
include hc hD
end
end Go.Proofs.Big
namespace Go.Proofs.Big
open Go Go.Sx Go.Proofs
variable [bW]
theorem RW{l:Ω}{i:Nat}(h:l.length<=i):l.getD i 0=0:=by
 rw[J0,J7 h];rfl
theorem B3(q:Ω):∃k:Int,0<k/\∀i,q.getD i 0=k*(ag q).getD i 0:=by
 unfold ag;split
 . rename_i b;rw[mT]at b⊢;refine⟨(lu (ae q):Int),by omega,λi=>?_⟩;rw[<-ck q i]
   by_cases h:i<(ae q).length
   . rw[J0,J0,J5,J4 h];simp only[K4,K5];have hm:(ae q)[i]∈ae q:=Ku _;generalize (ae q)[i]=z at*
     have c:((lu (ae q):Nat):Int)∣z:=by
      have:=Int.natCast_dvd_natCast.2 (En hm)
      rwa[Int.dvd_natAbs]at this
     exact(Int.mul_tdiv_cancel' c).symm
   . rw[RW (by omega),RW (by simpa using h)];simp
 . exact⟨1,by omega,λi=>by rw[ck,K8]⟩
theorem aaY(p:Ω)(i:Nat):(dH p).getD i 0= -(p.getD i 0):=by
 unfold dH;rw[J0,J0,J5];cases p[i]?<;>simp
theorem trim_len{p:Ω}{n:Nat}(h:p.length=n+1)(b:p.getD n 0≠0):(ae p).length=n+1:=by
 rw[iP (.inr (by rw[aN,h];exact b))];exact h
theorem list1{l:Ω}(h:l.length=1):l=[l.getD 0 0]:=by
 match l,h with
 |[x],_=>rfl
theorem list2{l:Ω}(h:l.length=2):l=[l.getD 0 0,l.getD 1 0]:=by
 match l,h with
 |[x,y],_=>rfl
theorem list3{l:Ω}(h:l.length=3):l=[l.getD 0 0,l.getD 1 0,l.getD 2 0]:=by
 match l,h with
 |[x,y,z],_=>rfl
theorem freeL_def(p:Ω):bE p=if(eZ p).length<2 then eZ p else if(eU (eZ p) (aX (eZ p))).length<2 then eZ p else mz (eZ p) (eU (eZ p) (aX (eZ p))):=by unfold bE;rfl
theorem chainL_def(p:Ω):bC p=if(bE p).length=0 then []else bE p::Vs (wB p).length (bE p) (wB p):=by unfold bC;rfl
theorem sgn3(x:Int):(x<0/\aW x= -1)\/(x=0/\aW x=0)\/(0<x/\aW x=1):=by
 rcases(show x<0\/x=0\/0<x by omega)with h|h|h
 . exact .inl ⟨h,gH h⟩
 . exact .inr (.inl ⟨h,by rw[h,gV]⟩)
 . exact .inr (.inr ⟨h,jj h⟩)
theorem sq0(n:Int):0<=n*n:=by
 rcases JV 0 n with h|h
 . exact Ja h h
 . exact Yj h h
theorem pw_2(k:Nat):pw k=2^(32*k):=fE k
theorem HF{a b:Nat}(h:a<=b):(2:Int)^a<=2^b:=by exact_mod_cast Xv (by omega) h
theorem p2_lt{a b:Nat}(h:a<b):(2:Int)^a<2^b:=by exact_mod_cast Nat.pow_lt_pow_right (by omega) h
theorem At.dp{y:Int×Int}{n:Int}{e:Nat}(h:At y n e)(b:0<=n)(c:n<=2^e)(i:e<=30000):dp y:=by
 obtain⟨j,k,d,m⟩:=h.sz b c;unfold Big.dp;have:=p2_lt (show e<32*10000 by omega);rw[pw_2];generalize (2:Int)^(32*10000)=X at*
 generalize (2:Int)^e=Y at*
 exact⟨by omega,d,by omega⟩
theorem At.bM{y:Int×Int}{n:Int}{e:Nat}{p:Ω}(h:At y n e)(b:0<=n)(c:n<=2^e)(k:e<=30000)(d:bj 1000 p)(i:p.length<=100):bM p y:=by
 obtain⟨m,o,j,q⟩:=h.sz b c;unfold Big.bM;have:=p2_lt (show e<32*1000 by omega);rw[pw_2];generalize (2:Int)^(32*1000)=X at*
 generalize (2:Int)^e=Y at*
 exact⟨d,i,by omega,j,by omega⟩
def Shrt(l:List Ω):Prop:=l.length<=10/\∀p∈l,bj 1000 p/\p.length<=100
theorem Shrt.pre{l:List Ω}(b:Shrt l){y:Int×Int}{n:Int}{e:Nat}(h:At y n e)(d:0<=n)(i:n<=2^e)(j:e<=30000):jO l y:=by
 unfold jO;exact⟨b.1,λp c=>h.bM d i j (b.2 p c).1 (b.2 p c).2⟩
theorem At.one(e:Nat):At y1 (2^e) e:=by unfold y1;exact⟨by simp,by simp,by simp⟩
structure Iv (q : ao) (n : Int) (e : Nat) : Prop where
 lo : At q.2.1 n e
 hi : At q.2.2 (n + 1) e
 n0 : 0 <= n
 n1 : n + 1 <= 2 ^ e
theorem Iv.ex{q:ao}{n:Int}{e:Nat}(h:Iv q n e):Ac q=false:=by
 rw[Iz,h.lo.cmp h.hi,gH (by omega)];rfl
theorem Iv.mid{q:ao}{n:Int}{e:Nat}(h:Iv q n e):At (dj q.2.1 q.2.2) (2*n+1) (e+1):=by
 have:=h.lo.mid h.hi
 rwa[show n+(n+1)=2*n+1 by omega]at this
theorem Iv.lo1{q:ao}{n:Int}{e:Nat}(h:Iv q n e):At q.2.1 (2*n) (e+1):=by
 have:=h.lo.up 1
 rwa[Kk,Kc,K8,J6]at this
theorem Iv.hi1{q:ao}{n:Int}{e:Nat}(h:Iv q n e):At q.2.2 (2*n+1+1) (e+1):=by
 have:=h.hi.up 1
 rwa[Kk,Kc,K8,show(n+1)*2=2*n+1+1 by omega]at this
theorem Iv.side{q:ao}{n:Int}{e:Nat}(h:Iv q n e):gn q (dj q.2.1 q.2.2)=if aW (cY q.1 (dj q.2.1 q.2.2))=0 then 0 else if aW (cY q.1 (dj q.2.1 q.2.2))=aW (cY q.1 q.2.2)then-1 else 1:=by
 rw[vf,h.ex,h.mid.cmp h.lo1,h.mid.cmp h.hi1,show 2*n+1-2*n=1 by omega,show 2*n+1-(2*n+1+1)= -1 by omega,jj (show(0:Int)<1 by omega),gH (show(-1:Int)<0 by omega)];rfl
theorem Iv.step{q:ao}{n:Int}{e:Nat}(h:Iv q n e):(Iv (ai q) (2*n) (e+1)/\ai q=(q.1,q.2.1,dj q.2.1 q.2.2)/\gn q (dj q.2.1 q.2.2)<=0)\/(Iv (ai q) (2*n+1) (e+1)/\ai q=(q.1,dj q.2.1 q.2.2,q.2.2)/\0<gn q (dj q.2.1 q.2.2)):=by
 have c:=h.n0;have d:=h.n1;have i:(2:Int)^(e+1)=2^e*2:=Kk ..;rw[BS,h.ex];simp only[Jr,JF]
 by_cases b:gn q (dj q.2.1 q.2.2)<=0
 . left;rw[JB b];exact⟨⟨h.lo1,h.mid,by omega,by omega⟩,rfl,b⟩
 . right;rw[JA b];exact⟨⟨h.mid,h.hi1,by omega,by omega⟩,rfl,by omega⟩
theorem Iv.pre{q:ao}{n:Int}{e:Nat}(h:Iv q n e)(j:e<=29990)(b:bj 1000 q.1)(c:q.1.length<=100):dA q:=by
 have i:=h.n0;have d:=h.n1;have k:(2:Int)^(e+1)=2^e*2:=Kk ..;unfold dA ql;exact⟨⟨h.lo.dp i (by omega) (by omega),h.hi.dp (by omega) d (by omega),h.hi.bM (by omega) d (by omega) b c⟩,h.mid.dp (by omega) (by omega) (by omega),h.mid.bM (by omega) (by omega) (by omega) b c⟩
theorem Iv.xF{q:ao}{n:Int}{e:Nat}(h:Iv q n e):xF q=decide (n+1<2^e):=by
 unfold Big.xF;rw[h.hi.cmp (At.one e),JX,xd];omega
theorem end_iv:∀{k:Nat}{q:ao}{n:Int}{e:Nat},Iv q n e->po xF ai dA k q->∃m b,Iv (xp xF ai k q) m b/\b<=e+k/\m+1<2^b/\(xp xF ai k q).1=q.1
 |0,_,_,_,_,h=>h.elim
 |k+1,q,n,e,h,u=>by
  simp only[xp];cases d:xF q with
  |true=>
   rw[h.xF,JG]at d;exact⟨n,e,h,by omega,d,rfl⟩
  |false=>
   obtain⟨_,c⟩:=u;rw[d]at c;have c:=c.resolve_left (by simp);rcases h.step with⟨i,j,_⟩|⟨i,j,_⟩
   . obtain⟨m,b,o,w,p,r⟩:=end_iv i c;exact⟨m,b,o,by omega,p,by rw[show(if false=true then q else xp xF ai k (ai q))=xp xF ai k (ai q)from rfl,r,j]⟩
   . obtain⟨m,b,o,w,p,r⟩:=end_iv i c;exact⟨m,b,o,by omega,p,by rw[show(if false=true then q else xp xF ai k (ai q))=xp xF ai k (ai q)from rfl,r,j]⟩
theorem aaP(a:ao):pH a=xp xF ai 3000 a:=by unfold pH;rfl
theorem sepN_def(s:ao×ao):vc s=xp jR ke 3000 s:=by unfold vc;rfl
theorem okE_def(a:ao):C1 a=po xF ai dA 3000 a:=by unfold C1;rfl
theorem sepL_1(q:ao):yK [q]=[q]:=by unfold yK;rfl
theorem sepL_2(q r:ao):yK [q,r]=[(vc (q,r)).1,(vc (q,r)).2]:=by unfold yK;rfl
theorem stpN_0(l:List ao):pj 0 l=yK l:=by unfold pj;rfl
theorem stpN_1(l:List ao):pj 1 l=l:=by unfold pj;rfl
theorem okK_1{q:ao}(h:C1 q):Lo [q]:=by
 unfold Lo;refine⟨by simp,λh=>by simp at h,λi c=>?_⟩;have b:i=0:=by simp at c;omega
 subst b;rw[xN,stpN_0,sepL_1];exact h
theorem brk_1{p:Ω}{q:ao}(h:qK p=[q]):aC p=[pH q]:=by
 rw[uS,h,show([q]:List ao).length=0+1 from rfl,kG,xN,stpN_0,sepL_1];rfl
theorem okK_2{q r s t:ao}(c:vc (q,r)=(s,t))(h:il r q)(d:po jR ke zK 3000 (q,r))(e:C1 s)(j:C1 t):Lo [q,r]:=by
 unfold Lo;refine⟨by simp,λ_=>⟨h,d⟩,λi k=>?_⟩;have b:i=0\/i=1:=by simp at k;omega
 rcases b with rfl|rfl
 . rw[xN,stpN_0,sepL_2,c];exact e
 . rw[show(1:Nat)=0+1 from rfl,kG,xN,stpN_0,sepL_2,c,stpN_1];exact j
theorem brk_2{p:Ω}{q r s t:ao}(h:qK p=[q,r])(b:vc (q,r)=(s,t)):aC p=[pH s,pH t]:=by
 rw[uS,h,show([q,r]:List ao).length=1+1 from rfl,kG,stpN_1,show(1:Nat)=0+1 from rfl,kG,xN,stpN_0,sepL_2,b];rfl
theorem At.uni{y w:Int×Int}{n m:Int}{e f:Nat}(h:At y n e)(k:At w m f):At y (n*2^f) (e+f)/\At w (m*2^e) (e+f):=by
 refine⟨h.up f,?_⟩;have:=k.up e
 rwa[JS]at this
theorem At.btw{y w:Int×Int}{n m:Int}{e f:Nat}(h:At y n e)(k:At w m f)(j:0<=n)(o:n<=2^e)(p:0<=m)(d:m<=2^f):At (dj y w) (n*2^f+m*2^e) (e+f+1)/\0<=n*2^f+m*2^e/\n*2^f+m*2^e<=2^(e+f+1):=by
 obtain⟨a,b⟩:=h.uni k;have c:=gg e;have i:=gg f;refine⟨a.mid b,?_,?_⟩
 . exact Int.add_nonneg (Ja j (Ju i)) (Ja p (Ju c))
 . have q:n*2^f<=2^e*2^f:=Jh o (Ju i);have r:m*2^e<=2^f*2^e:=Jh d (Ju c);rw[Kk,om,J6 (2^f)]at*
   have:m*2^e<=2^f*2^e:=Jh d (Ju c);rw[J6 (2^f) (2^e)]at this;omega
theorem JC{p:Ω}(h:ae p=p):fD [p]=vY p/\(vJ p=true->uA [p]=true)/\(vJ p=false->bq [p]=[p]/\uA [p]=decide (0<gj p)):=by
 have d:=xr [] p;have e:=Ty [] p;have b:=zY [] p;rw[Jj,h]at d e b;have i:fD []=false:=by unfold fD;rfl
 have j:bq []=[]:=by unfold bq;rfl
 have k:uA []=true:=by unfold uA bq;rfl
 rw[i,Bool.false_or]at d;rw[j,Jj]at e;rw[k,Qh]at b;refine⟨d,λc=>by rw[b,c];rfl,λc=>⟨by rw[e,c];rfl,by rw[b,c];rfl⟩⟩
theorem beg_nev{p:Ω}(h:ae p=p)(b:vY p=true):aJ [p]=(d0,false):=aaS (by rw[(JC h).1];exact b)
theorem allPos_1(p:Ω)(y:Int×Int):jS [p] y=decide (0<aW (cY p y)):=by unfold jS;simp
theorem find_1(p:Ω)(q:ao):Tb [p] [q] 1 0=if 0<aW (cY p (dj q.2.2 y1))then(q,true)else(d0,false):=by
 rw[oi,nO,allPos_1,tF];simp
theorem find_2(p:Ω)(q r:ao)(h:0<aW (cY p (dj q.2.2 r.2.1))):Tb [p] [q,r] 2 0=(q,true):=by
 rw[oi,allPos_1,tF];simp[h]
theorem pre285_one{p:Ω}(y:eO p)(B:ae p=p)(h:vY p=false->vJ p=false->gj p<=0->okB p/\(aC p).length<=2/\∀q∈aC p,∃n e,Iv q n e/\e<=7000):lP [p]:=by
 obtain⟨t1,t2,t3⟩:=JC B;unfold lP;refine⟨by simp,λq j=>by rw[JP.1 j];exact y,λC d=>?_⟩;have c:vJ p=false:=by
  cases D:vJ p with
  |true=>rw[t2 D]at d;cases d
  |false=>rfl
 obtain⟨E,F⟩:=t3 c;rw[F]at d;obtain⟨G,H,z⟩:=h (by rw[<-t1];exact C) c (by simpa using d);rw[E];refine⟨by unfold qJ;exact⟨rfl,G⟩,H,λi k=>?_⟩;obtain⟨n,e,b,L⟩:=z _ (uk k);have J:=b.n0;have o:=b.n1;refine⟨b.lo.dp J (by omega) (by omega),b.hi.dp (by omega) o (by omega),λq j=>?_⟩;rw[JP.1 j];obtain⟨A,M⟩:=ta y;show bM p (mZ (aC p) i)
 rw[tF];have k:i<(aC p).length:=k
 by_cases r:i+1<(aC p).length
 . rw[JB r];obtain⟨m,f,u,N⟩:=z _ (uk r);have K:=u.n0;have O:=u.n1;obtain⟨w,x,b3⟩:=b.hi.btw u.lo (by omega) o K (by omega);exact w.bM x b3 (by omega) (an A (by omega)) (by omega)
 . rw[JA r];obtain⟨w,x,b3⟩:=b.hi.btw (At.one 0) (by omega) o (by decide) (by decide);exact w.bM x b3 (by omega) (an A (by omega)) (by omega)
theorem At.zero(e:Nat):At y0 0 e:=by unfold y0;exact⟨by simp,by simp,by simp⟩
theorem Iv.kV{q:ao}{n:Int}{e:Nat}(h:Iv q n e):kV q=decide (n+1<2^e\/aW (cY q.1 q.2.2)≠0):=by
 have d:=h.n1;have i:=h.n0;rw[yd,vf,h.ex,(At.one e).cmp h.lo,(At.one e).cmp h.hi,jj (show 0<2^e-n by omega),JX];rcases(show n+1<2^e\/n+1=2^e by omega)with b|b
 . rw[jj (show 0<2^e-(n+1) by omega)];simp[b]
 . rw[show(2:Int)^e-(n+1)=0 by omega,gV]
   by_cases c:aW (cY q.1 q.2.2)=0
   . simp[c];omega
   . simp[c]
theorem Iv.pre3{q:ao}{n:Int}{e:Nat}(h:Iv q n e)(j:e<=29990)(b:bj 1000 q.1)(c:q.1.length<=100):eJ q y1:=by
 have i:=h.n0;have d:=h.n1;unfold eJ ql;exact⟨⟨h.lo.dp i (by omega) (by omega),h.hi.dp (by omega) d (by omega),h.hi.bM (by omega) d (by omega) b c⟩,Hq,(At.one 0).bM (by decide) (by decide) (by omega) b c⟩
theorem Iv.ql{q:ao}{n:Int}{e:Nat}(h:Iv q n e)(j:e<=29990)(c:bj 1000 q.1)(d:q.1.length<=100):ql q:=by
 have i:=h.n0;have b:=h.n1;unfold Big.ql;exact⟨h.lo.dp i (by omega) (by omega),h.hi.dp (by omega) b (by omega),h.hi.bM (by omega) b (by omega) c d⟩
theorem iso_eq(p:Ω)(h: ¬(bC p).length<2){f t:Int}(b:qb (bC p) y0=f)(c:qb (bC p) y1=t):dG p=bJ 3000 (bC p) y0 y1 f t:=by
 rw[zQ,z8,JA h];show bJ 3000 (bC p) y0 y1 (qb (bC p) y0) (qb (bC p) y1)=_
 rw[b,c]
theorem pre388_of{p:Ω}(c:m6 p)(b:Shrt (bC p)){f t:Int}(d:qb (bC p) y0=f)(e:qb (bC p) y1=t)(h:CA 3000 (bC p) y0 y1 f t):je p y0 y1 1073741824:=by
 unfold je;refine⟨c,rfl,.inr ⟨b.pre (At.zero 0) (by decide) (by decide) (by omega),b.pre (At.one 0) (by decide) (by decide) (by omega),?_⟩⟩;rw[d,e];exact h
end Go.Proofs.Big
namespace Go.Proofs.Big
open Go Go.Sx Go.Proofs Go.RowKit
section
variable [bW]
def DC{α:Type}(C:Ou α)(d:Nat)(l:List SV)(a:α):Prop:=C.dec (l.map (iF d))=some a/\C.ak (l.map (iF d))
def DA{α:Type}(A:Arg α)(x:SV)(a:α):Prop:=∃p,A.dec (iF 14 x)=some (p,a)/\p
theorem DE{α:Type}{A:Arg α}{c:α->Prop}{b:α->SV}{P:Program}{f:Nat}(h:nh P f (ow (iR.one A).dec c b)){x r:SV}{a:α}(i:DA A x a)(j:c a)(d:od (b a)=true)(k:oZ (b a) r):Fact P f [x] r:=by
 obtain⟨p,e,m⟩:=i;refine nu h 14 (p:=p/\c a) (r:=b a) ?_ ⟨m,j⟩ d k;unfold ow;rw[kJ];show(match A.dec (iF 14 x)with|some (p,a)=>some (p/\c a,b a)|none=>none)=_
 rw[e]
theorem gS{α β:Type}{A:Arg α}{B:Arg β}{d:α×β->Prop}{c:α×β->SV}{P:Program}{f:Nat}(k:nh P f (ow (iR.cons A (iR.one B)).dec d c)){x y r:SV}{a:α}{b:β}(m:DA A x a)(o:DA B y b)(u:d (a,b))(h:od (c (a,b))=true)(w:oZ (c (a,b)) r):Fact P f [x,y] r:=by
 obtain⟨p,e,z⟩:=m;obtain⟨j,C,i⟩:=o;refine nu k 14 (p:=(p/\j)/\d (a,b)) (r:=c (a,b)) ?_ ⟨⟨z,i⟩,u⟩ h w;unfold ow;rw[kJ];have D:(iR.cons A (iR.one B)).dec ([x,y].map (iF 14))=some (p/\j,(a,b)):=by
  show(match A.dec (iF 14 x)with|some (p,a)=>(match B.dec (iF 14 y)with|some (q,b)=>some (p/\q,(a,b))|none=>none)|none=>none)=_
  rw[e];dsimp only;rw[C]
 rw[D]
theorem FQ{b:IntKind}{d:Nat}{n:Int}:DC (aF b) (d+1) [.int b n] n:=⟨xk b n,trivial⟩
theorem Sz{ik:IntKind}{d:Nat}{e:XE}{lo hi:Int}:DC (aF ik) (d+1) [.sy ik e lo hi] e.den:=⟨xk ik _,trivial⟩
theorem da_y{b:IntKind}{e:XE}{c d:Int}:DA (DN b) (.sy b e c d) e.den:=⟨True,by show oB (rI b (.int b e.den)) _=_;rw[xk];rfl,trivial⟩
theorem PR{α:Type}{C:Ou α}{d n:Nat}{f:Nat->List SV}{l:List α}(c:n=l.length)(h:∀i,i<n->DC C d (f i) (l.getD i C.qW)):HB C n (λi=>(f i).map (iF d))/\ah C n (λi=>(f i).map (iF d))=l:=
 ⟨λi b=>⟨by rw[(h i b).1];rfl,(h i b).2⟩,kj c λi b=>(h i b).1⟩
theorem dr_self{α:Type}{C:Ou α}(l:List α):HB C l.length (λi=>C.enc (l.getD i C.qW)):=λi _=>⟨by rw[C.self];rfl,C.kW _⟩
theorem yk{α:Type}{C:Ou α}{b n:Nat}{f:Nat->List SV}{l:List α}(c:b=C.n)(d:n=l.length)(h:∀i,i<n->DC C 13 (f i) (l.getD i C.qW)):DA (zN C) (.bF b n f) l:=by
 subst c;obtain⟨e,j⟩:=PR d h;refine⟨_,?_,e⟩;show(match Nat.beq C.n C.n with|true=>some (HB C n (λi=>(f i).map (iF 13)),ah C n (λi=>(f i).map (iF 13)))|false=>none)=_
 rw[Yz,j]
theorem da_tg{α:Type}{C:Ou α}{i:Nat}{l:List α}(h:bW.tag i=Av C l):DA (zN C) (.tg i) l:=by
 refine⟨HB C l.length (λi=>C.enc (l.getD i C.qW)),?_,dr_self l⟩;show(zN C).dec (bW.tag i)=_
 rw[h];show(match Nat.beq C.n C.n with|true=>some (HB C l.length (λi=>C.enc (l.getD i C.qW)),ah C l.length (λi=>C.enc (l.getD i C.qW)))|false=>none)=_
 rw[Yz,iJ rfl]
theorem ml{α:Type}{C:Ou α}{h0}{d b n:Nat}{f:Nat->List SV}{l:List α}(c:b=C.n)(e:n=l.length)(h:∀i,i<n->DC C d (f i) (l.getD i C.qW)):DC (OE C h0) (d+1) [.bF b n f] l:=by
 subst c;obtain⟨j,k⟩:=PR e h;refine⟨?_,j⟩;show(match Nat.beq C.n C.n with|true=>some (ah C n (λi=>(f i).map (iF d)))|false=>none)=_
 rw[Yz,k]
theorem dc_nils{α:Type}{C:Ou α}{h0}{d:Nat}:DC (OE C h0) (d+1) [.aq] []:=⟨rfl,trivial⟩
theorem z7{α:Type}{C:Ou α}{h0}{d i:Nat}{l:List α}(h:bW.tag i=Av C l):DC (OE C h0) (d+1) [.tg i] l:=by
 constructor
 . show(OE C h0).dec [bW.tag i]=_
   rw[h];show(match Nat.beq C.n C.n with|true=>some (ah C l.length (λi=>C.enc (l.getD i C.qW)))|false=>none)=_
   rw[Yz,iJ rfl]
 . show(OE C h0).ak [bW.tag i]
   rw[h];exact dr_self l
theorem Ax{d:Nat}{b y:SV}{z:Int}{L:Ω}(j:b=SV.ff\/b=SV.tt)(c:DC cD (d+1) [y] L)(k:L=dz z)(m:b=SV.ff->0<=z)(e:b=SV.tt->z<0):DC aj (d+1) [b,y] z:=by
 subst k;have i:rB (iF (d+1) b)=some (decide (z<0)):=by
  rcases j with rfl|rfl
  . have:=m rfl;rw[JH (by omega)];rfl
  . have:=e rfl;rw[JJ this];rfl
 constructor
 . show Ha (iF (d+1) b) (iF (d+1) y)=_
   have o:cD.dec [iF (d+1) y]=some (dz z):=c.1;simp only[Ha,i,o,oB,Ox]
 . show EK (iF (d+1) b) (iF (d+1) y)
   refine .mk ⟨c.2,_,_,i,c.1,bI z,λh=>?_⟩;simp only[JG]at h;simp only[dz,oM (show 0<z.natAbs by omega)];simp
theorem aav{z:Int}(b:0<z)(h:z<4294967296):dz z=[z]:=by
 unfold dz;rw[oM (by omega),show z.natAbs/4294967296=0 by omega,ur];have:((z.natAbs:Int)%4294967296)=z:=by omega
 simp;omega
theorem X5{b y:SV}{z:Int}(h:DC aj 13 [b,y] z):DA Rx (.agg [.s b,.s y]) z:=by
 refine⟨_,?_,h.2⟩;show oB (aV [.s (iF 13 b),.s (iF 13 y)]) (λc=>oB (aj.dec c) λa=>some (aj.ak c,a))=_
 have d:aj.dec [iF 13 b,iF 13 y]=some z:=h.1;show oB (aj.dec [iF 13 b,iF 13 y]) (λa=>some (aj.ak [iF 13 b,iF 13 y],a))=_
 rw[d];rfl
end
end Go.Proofs.Big
