import Derived.Test.YtpjiopgakifhaaaGreatRA
import Derived.Test.YtpjiopgakifhaaaGreatRD
import Derived.Test.YtpjiopgakifhaaaGreatRJ
import Derived.Test.YtpjiopgakifhaaaGreatProg
import Derived.KernelRfl
set_option linter.unusedSectionVars false
set_option linter.unusedSimpArgs false
set_option linter.unusedVariables false
set_option maxRecDepth 100000
namespace Go.Proofs.Big
def pw(k:Nat):Int:=4294967296^k
theorem fh:pw 0=1:=by simp[pw]
theorem bD(k:Nat):pw (k+1)=4294967296*pw k:=by simp only[pw,Kk];omega
theorem bN(k:Nat):0<pw k:=by unfold pw;exact JZ (by omega)
theorem uE(k:Nat):pw k≠0:=by have:=bN k;omega
theorem gG(a b:Nat):pw (a+b)=pw a*pw b:=by simp only[pw,Int.pow_add]
theorem fE(k:Nat):pw k=2^(32*k):=by
 induction k with
 |zero=>rfl
 |succ k b=>rw[bD,b,show 32*(k+1)=32*k+32 by omega,Int.pow_add];omega
theorem gT{a b:Nat}(h:a<=b):pw a<=pw b:=by
 obtain⟨c,rfl⟩:=Nat.le.dest h;rw[gG];have d:=bN a;have e:=bN c;have:pw a*1<=pw a*pw c:=Jt (by omega) (by omega);omega
attribute [irreducible] pw
abbrev GD(x:Int):Prop:=0<=x/\x<4294967296
def cO(l:Ω):Prop:=∀x∈l,GD x
def nv:Ω->Int
 |[]=>0
 |x::r=>x+4294967296*nv r
def dg:Nat->Int->Ω
 |0,_=>[]
 |k+1,z=>z%4294967296::dg k (z/4294967296)
@[simp] theorem mL(k:Nat)(z:Int):(dg k z).length=k:=by
 induction k generalizing z with
 |zero=>rfl
 |succ k b=>simp[dg,b]
theorem kP:cO []:=by intro x h;cases h
theorem eP{x:Int}{r:Ω}:cO (x::r)↔GD x/\cO r:=by simp[cO]
theorem Fs{a b:Ω}:cO (a++b)↔cO a/\cO b:=by
 simp only[cO,Xt];exact⟨λh=>⟨λx c=>h x (.inl c),λx c=>h x (.inr c)⟩,λh x c=>c.elim (h.1 x) (h.2 x)⟩
theorem mN{a:Ω}(h:cO a)(k:Nat):cO (a.take k):=λx b=>h x (Zg b)
theorem PI(k:Nat):cO (List.replicate k 0):=λx b=>by
 have:=List.eq_of_mem_replicate b;subst this;omega
theorem bH{l:Ω}(h:cO l)(i:Nat):GD (l.getD i 0):=by
 by_cases b:i<l.length
 . rw[J0,J4 b];exact h _ (Ku b)
 . rw[J0,J7 (by omega)];exact⟨by simp,by simp⟩
theorem mo(k:Nat)(z:Int):cO (dg k z):=by
 induction k generalizing z with
 |zero=>exact kP
 |succ k b=>exact eP.2 ⟨by omega,b _⟩
theorem fV{l:Ω}(h:cO l):0<=nv l/\nv l<pw l.length:=by
 induction l with
 |nil=>simp[nv,fh]
 |cons x r b=>
  obtain⟨d,c⟩:=eP.1 h;have:=b c;simp only[nv,Jc,bD];omega
theorem vw(a b:Ω):nv (a++b)=nv a+pw a.length*nv b:=by
 induction a with
 |nil=>simp[nv,fh]
 |cons x r c=>
  simp only[K0,nv,c,Jc,bD];rw[Kg,Jk];omega
theorem W2(k:Nat):nv (List.replicate k 0)=0:=by
 induction k with
 |zero=>rfl
 |succ k b=>simp[Qy,nv,b]
theorem l9(z:Int)(k:Nat):z/4294967296/pw k=z/pw (k+1):=by
 rw[bD,Qd (by omega)]
theorem cq(z:Int)(k:Nat):z/pw k/4294967296=z/pw (k+1):=by
 rw[bD,J6,Qd (by have:=bN k;omega)]
theorem wc{k:Nat}{z:Int}(d:0<=z)(b:z<pw k):nv (dg k z)=z:=by
 induction k generalizing z with
 |zero=>rw[fh]at b;simp[dg,nv];omega
 |succ k c=>
  rw[bD]at b;simp only[dg,nv];rw[c (by omega) (by omega)];omega
theorem T5(k:Nat)(z:Int):nv (dg k z)=z%pw k:=by
 induction k generalizing z with
 |zero=>simp[dg,nv,fh,Int.emod_one]
 |succ k b=>
  simp only[dg,nv];rw[b];have c:=X2 (z/4294967296) (pw k);have d:=X2 z (pw (k+1));rw[c,d,l9,bD,Qm,Jk];omega
theorem PD{l:Ω}(h:cO l):dg l.length (nv l)=l:=by
 induction l with
 |nil=>rfl
 |cons x r c=>
  obtain⟨d,b⟩:=eP.1 h;have:=fV b;simp only[Jc,dg,nv];rw[show(x+4294967296*nv r)%4294967296=x by omega,show(x+4294967296*nv r)/4294967296=nv r by omega,c b]
theorem re(k:Nat)(z:Int):dg (k+1) z=dg k z++[z/pw k%4294967296]:=by
 induction k generalizing z with
 |zero=>simp[dg,fh]
 |succ k b=>
  rw[dg,b,l9];rfl
theorem tA{k i:Nat}(z:Int)(h:i<k):(dg k z).getD i 0=z/pw i%4294967296:=by
 induction k generalizing z i with
 |zero=>omega
 |succ k b=>
  cases i with
  |zero=>simp[dg,fh]
  |succ i=>
   simp only[dg,Zb];rw[b _ (by omega),l9]
theorem dg_high(k:Nat)(z t:Int):dg k (z+pw k*t)=dg k z:=by
 induction k generalizing z t with
 |zero=>rfl
 |succ k b=>
  simp only[dg,bD];rw[Jk,Yg,X3 _ _ (by omega),b]
theorem nw(k:Nat)(z t:Int):(z+pw k*t)/pw k=z/pw k+t:=by
 rw[X3 _ _ (uE k)]
theorem uL(k:Nat)(z t:Int):dg (k+1) (z+pw k*t)=dg k z++[(z/pw k+t)%4294967296]:=by
 rw[re,dg_high,nw]
theorem lH(k:Nat)(z t:Int):(z+pw k*t)/pw (k+1)=(z/pw k+t)/4294967296:=by
 rw[<-cq,nw]
theorem QP{l:Ω}{i:Nat}(b:i<l.length):nv (l.take (i+1))=nv (l.take i)+pw i*l.getD i 0:=by
 rw[X4,vw,J0,J4 b];simp[nv,Qn (Nat.le_of_lt b)]
theorem Oo(l:Ω)(k:Nat)(h:k<=l.length):nv l=nv (l.take k)+pw k*nv (l.drop k):=by
 have:=vw (l.take k) (l.drop k)
 rwa[Xb,Kj,Qn h]at this
theorem RA{k i:Nat}(z:Int):(dg k z).drop i=dg (k-i) (z/pw i):=by
 induction k generalizing z i with
 |zero=>simp[dg]
 |succ k b=>
  cases i with
  |zero=>simp[fh]
  |succ i=>
   simp only[dg,List.drop_succ_cons];rw[b,l9];congr 1;omega
theorem Il{k i:Nat}(z:Int)(h:i<=k):(dg k z).take i=dg i z:=by
 induction k generalizing z i with
 |zero=>
  have:i=0:=by omega
  subst this;rfl
 |succ k b=>
  cases i with
  |zero=>rfl
  |succ i=>
   simp only[dg,Qu];rw[b _ (by omega)]
theorem CE(k:Nat):dg k 0=List.replicate k 0:=by
 induction k with
 |zero=>rfl
 |succ k b=>simp[dg,b,Qy]
theorem G8(a b:Nat)(z:Int):dg (a+b) z=dg a z++dg b (z/pw a):=by
 have d:=Il (k:=a+b) z (Nat.le_add_right a b);have c:=RA (k:=a+b) (i:=a) z;rw[show a+b-a=b by omega]at c;rw[<-d,<-c,Xb]
theorem cG{a r:Ω}{i:Nat}{x v:Int}(h:a.length=i):(a++x::r).set i v=a++v::r:=by
 subst h;simp
theorem kO{n:Nat}(h:0<n):List.replicate n (0:Int)=0::List.replicate (n-1) 0:=by
 obtain⟨m,rfl⟩:∃m,n=m+1:=⟨n-1,by omega⟩;simp[Qy]
theorem fv(l:Ω)(i:Nat):nv (l.take (i+1))=nv (l.take i)+pw i*l.getD i 0:=by
 by_cases b:i<l.length
 . exact QP b
 . rw[Jz (by omega),Jz (by omega),J0,J7 (by omega)];simp
theorem cm{l:Ω}(h:cO l)(i:Nat):0<=nv (l.take i)/\nv (l.take i)<pw i:=by
 have c:=fV (mN h i);have d:=gT (a:=(l.take i).length) (b:=i) (by rw[Kj];omega);omega
theorem sJ{z:Int}{k:Nat}{m:Int}(b:0<=z)(c:z<m*pw k):0<=z/pw k/\z/pw k<m:=by
 have d:=bN k;exact⟨Kb b (by omega),(Kl d).2 c⟩
theorem aaO{b:Ω}{i n:Nat}{z t v:Int}(h:b=dg i z++List.replicate (n-i) 0)(d:i<n)(c:v=(z/pw i+t)%4294967296):b.set i v=dg (i+1) (z+pw i*t)++List.replicate (n-(i+1)) 0:=by
 rw[h,kO (by omega),cG (mL i z),uL,c,Jq,show n-(i+1)=n-i-1 by omega];rfl
theorem gR(n i:Nat):(List.replicate n (0:Int)).getD i 0=0:=by
 simp only[J0,Xh];split<;>rfl
def lmF:Nat->Nat->Ω
 |0,_=>[]
 |f+1,n=>match n with
  |0=>[]
  |m+1=>(((m+1)%4294967296:Nat):Int)::lmF f ((m+1)/4294967296)
def lm(n:Nat):Ω:=lmF n n
theorem E8:∀{f g n:Nat},n<=f->n<=g->lmF f n=lmF g n
 |0,0,_,_,_=>rfl
 |0,g+1,n,h,_=>by
  have:n=0:=by omega
  subst this;rfl
 |f+1,0,n,_,h=>by
  have:n=0:=by omega
  subst this;rfl
 |f+1,g+1,n,b,c=>by
  cases n with
  |zero=>rfl
  |succ m=>
   simp only[lmF];rw[E8 (f:=f) (g:=g) (by omega) (by omega)]
theorem ur:lm 0=[]:=rfl
theorem oM{n:Nat}(h:0<n):lm n=((n%4294967296:Nat):Int)::lm (n/4294967296):=by
 cases n with
 |zero=>omega
 |succ m=>
  simp only[lm,lmF];rw[E8 (g:=(m+1)/4294967296) (by omega) (by omega)]
theorem Tf(n:Nat):nv (lm n)=(n:Int):=by
 induction n using Nat.strongRecOn with
 |ind n b=>
  rcases Jw n with rfl|h
  . rfl
  . rw[oM h,nv,b _ (by omega)];omega
theorem lm_allD(n:Nat):cO (lm n):=by
 induction n using Nat.strongRecOn with
 |ind n b=>
  rcases Jw n with rfl|h
  . exact kP
  . rw[oM h];exact eP.2 ⟨by omega,b _ (by omega)⟩
def canon(l:Ω):Prop:=cO l/\(l≠[]->l.getD (l.length-1) 0≠0)
theorem Ei:canon []:=⟨kP,λh=>absurd rfl h⟩
theorem xn{x:Int}{r:Ω}(h:canon (x::r)):GD x/\canon r:=by
 obtain⟨b,c⟩:=h;obtain⟨d,e⟩:=eP.1 b;refine⟨d,e,λi=>?_⟩;have:=c (by simp);cases r with
 |nil=>exact absurd rfl i
 |cons y r=>simpa using this
theorem OS(n:Nat):canon (lm n):=by
 refine⟨lm_allD n,?_⟩
 induction n using Nat.strongRecOn with
 |ind n c=>
  rcases Jw n with rfl|h
  . intro h;exact absurd rfl h
  . intro _;rw[oM h];rcases Jw (n/4294967296)with b|b
    . rw[b,ur];simp;omega
    . have:=c (n/4294967296) (by omega) (by rw[oM b];simp);rw[oM b]at this⊢;simpa using this
theorem nq{l:Ω}(h:canon l)(b:l≠[]):pw (l.length-1)<=nv l:=by
 induction l with
 |nil=>exact absurd rfl b
 |cons x r c=>
  obtain⟨e,d⟩:=xn h;cases r with
  |nil=>
   have:=h.2 (by simp);simp[nv,fh]at this⊢;omega
  |cons y s=>
   have:=c d (by simp);simp only[Jc,Nat.add_sub_cancel,bD]at this⊢;rw[nv];omega
theorem Fj{l:Ω}(h:canon l)(b:l≠[]):0<nv l:=by
 have:=nq h b;have:=bN (l.length-1);omega
theorem lm_nv{l:Ω}(h:canon l):lm (nv l).toNat=l:=by
 induction l with
 |nil=>rfl
 |cons x r c=>
  obtain⟨j,b⟩:=xn h;have d:=Fj h (by simp);have k:=fV b.1;rw[oM (by omega)];simp only[nv]at d⊢;have e:(x+4294967296*nv r).toNat/4294967296=(nv r).toNat:=by omega
  have i:(((x+4294967296*nv r).toNat%4294967296:Nat):Int)=x:=by omega
  rw[e,i,c b]
def tl:Ω->Nat
 |[]=>0
 |x::r=>match tl r with
  |0=>if x=0 then 0 else 1
  |n+1=>n+2
theorem cX(l:Ω):tl l<=l.length:=by
 induction l with
 |nil=>simp[tl]
 |cons x r b=>
  simp only[tl,Jc];split
  . split<;>omega
  . omega
theorem wQ{l:Ω}:tl l=0↔ ∀x∈l,x=0:=by
 induction l with
 |nil=>simp[tl]
 |cons x r b=>
  simp only[tl,List.forall_mem_cons];split
  . rename_i h;rw[b]at h;split
    . rename_i e;simp only[true_iff];exact⟨e,h⟩
    . rename_i e;simp[e]
  . rename_i n h;constructor
    . intro h;omega
    . intro c;have:=b.2 c.2;omega
theorem Af{l:Ω}(h:cO l):canon (l.take (tl l)):=by
 refine⟨mN h _,?_⟩
 induction l with
 |nil=>simp
 |cons x r c=>
  obtain⟨i,d⟩:=eP.1 h;simp only[tl];split
  . split
    . simp
    . simp_all
  . rename_i n e;have:=c d;rw[e]at this;intro _;have b:n+1<=r.length:=by have:=cX r;omega
    cases r with
    |nil=>simp at b
    |cons y s=>
     have:=this (by simp);simpa[Kj,Qn b,Qn (Nat.le_of_succ_le_succ b)]using this
theorem Ik{l:Ω}(h:∀x∈l,x=0):nv l=0:=by
 induction l with
 |nil=>rfl
 |cons x r b=>
  simp only[List.forall_mem_cons]at h;simp[nv,h.1,b h.2]
theorem xH(l:Ω):nv (l.take (tl l))=nv l:=by
 induction l with
 |nil=>rfl
 |cons x r b=>
  simp only[tl];split
  . rename_i h;have c:=Ik (wQ.1 h);split
    . simp_all[nv]
    . simp[nv,c]
  . rename_i n h;rw[h]at b;simp only[Qu,nv]at b⊢;rw[b]
theorem qQ{l:Ω}{n:Nat}(b:tl l<=n)(c:n<=l.length):(0<n/\l.getD (n-1) 0=0)↔tl l<n:=by
 induction l generalizing n with
 |nil=>simp at c;subst c;simp[tl]
 |cons x r e=>
  cases n with
  |zero=>simp
  |succ n=>
   simp only[Nat.add_sub_cancel,Jc]at c⊢;cases n with
   |zero=>
    have d:tl (x::r)<=1:=b;simp only[tl]at d⊢;split
    . split<;>simp_all
    . rename_i m h;rw[h]at d;simp at d
   |succ n=>
    have:=e (n:=n+1) (by
     simp only[tl]at b;split at b<;>rename_i h<;>omega) (by omega)
    simp only[Zb];simp only[Nat.add_sub_cancel,Nat.zero_lt_succ,JL]at this⊢;rw[this];simp only[tl];split<;>rename_i h
    . split<;>omega
    . omega
theorem WU(g t x:Int):g*(t*4294967296+x)=(g*t)*4294967296+g*x:=by rw[Kg,Jk]
theorem VW{c next num u w d m g b U V:Int}(C:0<w)(o:V=(c*4294967296+next)*w+d)(p:U=(num*4294967296+u)*w+m)(i:0<=d)(q:m<w)(r:0<V)(j:0<=U)
 (D:g*c+b=num) (E:U/V<4294967296) (x:U/V<=g) (k:4294967296<=g\/b*4294967296+u<g*next):U/V<=g-1:=by
 rcases Qe (U/V) g with h|h
 . omega
 exfalso;have e:U/V=g:=by omega
 rcases k with k|k
 . omega
 have y:U/V*V<=U:=Int.ediv_mul_le U (by omega);have z:0<=g:=by rw[<-e];exact Kb j (by omega)
 rw[e,o,p,Kg,<-Int.mul_assoc]at y;have F:0<=g*d:=Ja z i;have A:g*(c*4294967296+next)*w<(num*4294967296+u+1)*w:=by
  rw[Qo (num*4294967296+u),K8];omega
 have B:=KH A (by omega);rw[WU]at B;omega
theorem Vx{b next num u w d h g c U V:Int}(r:0<w)(i:V=(b*4294967296+next)*w+d)(k:U=(num*4294967296+u)*w+h)(m:d<w)(j:0<=d)(o:0<=h)(x:1<=b)(y:0<=next)
 (z:g*b+c=num) (e:0<=g) (A:g<4294967296) (B:g*next<=c*4294967296+u):(g-1)*V<=U:=by
 have p:g*(b*4294967296+next)<=num*4294967296+u:=by rw[WU];omega
 have C:g*(b*4294967296+next)*w<=(num*4294967296+u)*w:=Jh p (by omega);have D:4294967296*w<=V:=by
  rw[i];have:4294967296*w<=(b*4294967296+next)*w:=Jh (by omega) (by omega);omega
 have E:g*d<=g*w:=Jt (by omega) e;have F:g*w<=4294967296*w:=Jh (by omega) (by omega);have q:g*V=g*(b*4294967296+next)*w+g*d:=by rw[i,Kg,<-Int.mul_assoc]
 rw[Int.sub_mul,K8,q,k];omega
theorem QH{b next num u w d i U V:Int}(z:0<w)(j:V=(b*4294967296+next)*w+d)(k:U=(num*4294967296+u)*w+i)(e:0<=d)(m:i<w)(A:1<=b)(o:0<=next)(B:0<=u/\u<4294967296)(h:0<=U)(p:0<V):U/V<=num/b:=by
 have r:U/V*V<=U:=Int.ediv_mul_le U (by omega);have c:0<=U/V:=Kb h (by omega);generalize U/V=q at*
 rw[Qp (by omega)];have C:0<=q*d:=Ja c e;have D:0<=q*next:=Ja c o;rw[j,k,Kg,<-Int.mul_assoc]at r;have x:q*(b*4294967296+next)*w<(num*4294967296+u+1)*w:=by
  rw[Qo (num*4294967296+u),K8];omega
 have y:=KH x (by omega);rw[WU]at y;omega
end Go.Proofs.Big
namespace Go.Sx
open Go Go.RowKit Go.Proofs.Big
variable [bW]
abbrev cD:Ou Ω:=OE (aF .u32) UW
def zv(b:Bool)(l:Ω):Int:=if b then-nv l else nv l
def dz(z:Int):Ω:=lm z.natAbs
theorem bI(z:Int):canon (dz z):=OS _
theorem Ox(z:Int):zv (decide (z<0)) (dz z)=z:=by
 simp only[zv,dz,Tf,JG];split<;>omega
theorem TE{b:Bool}{l:Ω}(h:canon l)(d:b=true->l≠[]):dz (zv b l)=l/\decide (zv b l<0)=b:=by
 have e:=fV h.1;have c:=lm_nv h;cases b
 . simp only[zv,dz];refine⟨?_,by simp;omega⟩;simpa[show(nv l).natAbs=(nv l).toNat by omega]using c
 . have:=Fj h (d rfl);simp only[zv,dz];refine⟨?_,by simp;omega⟩;simpa[show(-nv l).natAbs=(nv l).toNat by omega]using c
inductive EK (x y : SV) : Prop
 | mk (h : cD.ak [y] /\ ∃ b L, rB x = some b /\ cD.dec [y] = some L /\ canon L /\ (b = true -> L ≠ []))
theorem EK.get{x y:SV}(h:EK x y):cD.ak [y]/\∃b L,rB x=some b/\cD.dec [y]=some L/\canon L/\(b=true->L≠[]):=by cases h;assumption
def Ha(x y:SV):Option Int:=oB (rB x) λb=>oB (cD.dec [y]) λL=>some (zv b L)
theorem Cu{x y:SV}{z:Int}(h:Ha x y=some z):∃b L,rB x=some b/\cD.dec [y]=some L/\z=zv b L:=by
 obtain⟨b,c,h⟩:=gQ h;obtain⟨L,d,h⟩:=gQ h;cases h;exact⟨b,L,c,d,rfl⟩
theorem BM{x y:SV}{z:Int}(h:Ha x y=some z)(j:EK x y):∃b L,rB x=some b/\cD.dec [y]=some L/\z=zv b L/\L=dz z/\b=decide (z<0):=by
 obtain⟨b,L,c,d,rfl⟩:=Cu h;obtain⟨_,q,r,e,i,k,m⟩:=j.get;rw[c]at e;rw[d]at i;cases e;cases i;obtain⟨o,p⟩:=TE k m;exact⟨_,_,c,d,rfl,o.symm,p.symm⟩
def aj:Ou Int where
 n:=2
 enc z:=[.bool (decide (z<0)),Av (aF .u32) (dz z)]
 dec l:=match l with|[x,y]=>Ha x y|_=>none
 qW:=0
 ak l:=match l with|[x,y]=>EK x y|_=>True
 ok l a h hg:=by
  split at h
  case h_2=>cases h
  obtain⟨b,L,h1,h2,h3,h4,h5⟩:=BM h hg;have:=cD.ok _ _ h2 hg.get.1;subst h4;rw[<-h5];exact⟨(IC h1).1,this.1,trivial⟩
 self z:=by
  have:cD.dec [Av (aF .u32) (dz z)]=some (dz z):=cD.self (dz z);simp only[Ha,rB,oB,this,Ox]
 kW z:=.mk ⟨cD.kW (dz z),decide (z<0),dz z,rfl,cD.self (dz z),bI z,λh=>by
  simp only[JG]at h;simp only[dz,oM (show 0<z.natAbs by omega)];simp⟩
 len _:=rfl
 Aa c x y a b h k:=by
  split at h
  case h_2=>cases h
  split at k
  case h_2=>cases k
  obtain⟨b1,L1,h1,h2,rfl⟩:=Cu h;obtain⟨b2,L2,k1,k2,rfl⟩:=Cu k;have e1:=WT (c:=c) h1 k1;have e2:=cD.Aa c _ _ _ _ h2 k2;simp only[af]at e2⊢;simp only[Ha,e1,e2,oB];cases c<;>rfl
@[simp] theorem codZ_n:aj.n=2:=rfl
@[simp] theorem codZ_dft:aj.qW=0:=rfl
theorem M3(z:Int):aj.enc z=[.bool (decide (z<0)),Av (aF .u32) (dz z)]:=rfl
theorem leD{y:SV}{L:Ω}(h:cD.dec [y]=some L)(d:cD.ak [y]):Dt y (Av (aF .u32) L):=by
 simp only[cD,OE]at h d;split at h
 . rename_i e;simp only[Qw,JK]at e;subst e;split at h
   case h_2=>cases h
   rename_i m;cases h;refine aL.2 ⟨m,(jH _ _).symm,λi j=>?_⟩;obtain⟨b,k⟩:=Qi.1 (d i j).1;simp only[um j,k];have c:=k;simp only[aF]at c;split at c
   case h_2=>cases c
   rename_i q x e;rw[e,Fk c];simp only[aF,K5];exact⟨rfl,trivial⟩
 . rename_i e;simp only[Qw,JK]at e;subst e;cases h;exact rfl
 . cases h
theorem QO{x:SV}{b:Bool}(h:rB x=some b):xa x (.bool b):=by
 unfold rB at h;split at h<;>cases h<;>rfl
theorem Ix:∀l a,aj.dec l=some a->aj.ak l->BE l (aj.enc a):=by
 intro l a h c;simp only[aj]at h c⊢;split at h
 case h_2=>cases h
 obtain⟨b,L,d,e,k,i,j⟩:=BM h c;subst i;rw[<-j];exact⟨BK (QO d),leD e c.get.1,trivial⟩
theorem Wa:∀l a,aj.dec l=some a->aj.ak l->oP l (aj.enc a):=λl a h b=>aaC (Ix l a h b)
abbrev fm:Ou Ω:=OE aj Wa
theorem Wy:∀l a,fm.dec l=some a->fm.ak l->oP l (fm.enc a):=by
 intro l a h c;simp only[fm,OE]at h c⊢;split at h
 . split at h
   case h_2=>cases h
   rename_i j;cases h;refine⟨aL.2 ⟨j,(jH _ _).symm,λi d=>?_⟩,trivial⟩;obtain⟨b,e⟩:=Qi.1 (c i d).1;simp only[um d,e];exact Ix _ _ e (c i d).2
 . cases h;exact⟨rfl,trivial⟩
 . cases h
@[simp] theorem decZ_self(z:Int):Ha (.bool (decide (z<0))) (.bF 1 (dz z).length λi=>[.int .u32 ((dz z).getD i 0)])=some z:=aj.self z
@[simp] theorem goodZ_self(z:Int):EK (.bool (decide (z<0))) (.bF 1 (dz z).length λi=>[.int .u32 ((dz z).getD i 0)]):=aj.kW z
@[simp] theorem zv_self(z:Int):zv (decide (z<0)) (dz z)=z:=Ox z
theorem gz:dz 0=[]:=by simp[dz,ur]
theorem U2(b:Bool):zv b []=0:=by cases b<;>simp[zv,nv]
@[simp] theorem decZ_null:Ha .ff .aq=some 0:=by
 have:cD.dec [.aq]=some []:=rfl;simp[Ha,rB,oB,this,U2]
@[simp] theorem goodZ_null:EK .ff .aq:=.mk ⟨trivial,false,[],rfl,rfl,Ei,by simp⟩
def zz(z:Int):Int:=zv (decide (z<0)) (ah (aF .u32) (dz z).length λi=>(aF .u32).enc ((dz z).getD i 0))
def VB(z:Int):Int:=zv (decide (z<0)) (ah (aF .u32) (dz z).length λi=>(aF .u32).enc ((dz z).getD (0+i) 0))
@[simp] theorem zz_eq(z:Int):zz z=z:=by simp[zz,-List.getD_eq_getElem?_getD]
@[simp] theorem zz0_eq(z:Int):VB z=z:=by simp[VB,-List.getD_eq_getElem?_getD]
@[simp] theorem V0(z:Int):aj.ak [.bool (decide (z<0)),.bF 1 (dz z).length λi=>[.int .u32 ((dz z).getD i 0)]]:=aj.kW z
@[simp] theorem decC_self(z:Int):aj.dec [.bool (decide (z<0)),.bF 1 (dz z).length λi=>[.int .u32 ((dz z).getD i 0)]]=some z:=aj.self z
@[simp] theorem goodC_null:aj.ak [.ff,.aq]:=goodZ_null
@[simp] theorem QN:aj.dec [.ff,.aq]=some 0:=decZ_null
attribute [irreducible] zz VB
def zc(z:Int):List SV:=[.bool (decide (z<0)),.bF (0+1) (dz z).length λi=>(aF .u32).enc ((dz z).getD i 0)]
theorem CC(z:Int):zc z=aj.enc z:=rfl
@[simp] theorem Ia(z:Int):aj.dec (zc z)=some z:=aj.self z
@[simp] theorem good_zc(z:Int):aj.ak (zc z):=aj.kW z
attribute [irreducible] zc
end Go.Sx
namespace Go.Proofs.Big
open Go Go.Sx Go.Proofs Tryz
variable [bW]
attribute [local irreducible] lm nv tl dg
abbrev iS(n:Int):SV:=.int .i64 n
theorem hm:prog.follows .mixedOrders=true:=by kernel_rfl
abbrev fQ(T:List (Nat×bB))(fn:Func)(A:List kM)(args:List SV)(r:SV):Prop:=H9 prog (WQ T) fn (mB fn) A args r
def sm{α:Type}(x:α):Prop:=x=x
@[simp] theorem sm_iff{α:Type}(x:α):sm x↔True:=⟨λ_=>trivial,λ_=>rfl⟩
def W(n:Int):Int:=IntKind.i64.wrap n
def U(n:Int):Int:=IntKind.u64.wrap n
def V(n:Int):Int:=IntKind.u32.wrap n
attribute [irreducible] W U V
abbrev Rx:Arg Int:=argA aj
abbrev zS(z:Int):SV:=Rx.enc z
abbrev GF:Arg Ω:=zN (aF .u32)
abbrev lS(l:Ω):SV:=GF.enc l
def sZ:=iR.one Rx
def sBL:=iR.cons VI (iR.one GF)
def sI:=iR.one (DN .i64)
def fit(z:Int):Prop:=(dz z).length<=1000000
def br(l:Ω):Prop:=cO l/\l.length<=10000000
attribute [irreducible] fit br
def c349:bB:=ow sZ.dec (λz=>fit z) (λz=>.df [.bool (decide (z<0)),lS (dz z)])
def WM:List (Nat×bB):=[(349,c349)]
def Z0(z:Int):List kM:=[⟨.unit,.int .i64 (.tm 4),λ_ (n:Int)=>n=((dz z).length:Int),λ_ n=>n.toNat⟩]
def Sh(z:Int):Prop:=fQ [] f349 (Z0 z) [zS z] (.df [.bool (decide (z<0)),lS (dz z)])
def c356:bB:=ow sBL.dec (λa=>br a.2) (λa=>zS (zv a.1 a.2))
def Uv:List (Nat×bB):=(356,c356)::WM
def YN(l:Ω):List kM:=[⟨.unit,.int .i64 (.tm 5),λ_ (n:Int)=>(tl l:Int)<=n/\n<=(l.length:Int),λ_ n=>n.toNat⟩]
def Tp(b:Bool)(l:Ω):Prop:=fQ WM f356 (YN l) [.bool b,lS l] (zS (zv b l))
theorem PZ(z:Int):(
 let f:=λ(x:Int)=>(dz x).length
 let c:=λ(x:Int)=>(↑(f x):Int)
 let h:=ab 26 True
 let d:=λ(x:Int)=>decide (x<0)
 let t:=λ(x:Int)(y:Nat)=>(aF IntKind.u32).enc ((dz x).getD y 0)
 let j:=λ(x:Int)=>List.map ar.shape [ar.s (SV.bool (d x)),ar.s (SV.bF 1 (f x) λi=>t x i)]
 let k:=λ(x:Int)=>j x=j x/\(sm (d x)/\(sm (f x)/\∀i,i<f x->sm ((dz x).getD i 0)/\True)/\True)/\True
 let g:=λ(x:Int)=>decide (x>0)
 let e:=λ(x:Int)=>W (x-1)
 let o:=λ(x y:Int)=>(dz x).getD (e y).toNat 0==0
 let p:=λ(x y:Int)=>(0:Int)<=(0:Int)/\(0:Int)<=x/\x<=c y
 let q:=λ(x y:Int)=>((x-0).toNat=f y/\∀i,i<(x-0).toNat->(dz y).getD (0+i) 0=(dz y).getD i 0/\True)/\True
 let r:=λ(x y:Int)=>(d x=true->p y x/\ru true/\ab 2 ((g y=d x/\q y x)/\True))/\(d x=false->p y x/\ru true/\ab 2 ((d x=false/\q y x)
  /\True))
 ab 2 ((c z=c z/\ab 4 (c z=c z/\h)/\k z)/\∀(n:Int),n=c z->(g n=true->(0<=e n/\e n<c z)/\True/\(o z n=true->True/\e n=c z/\(e n).toNat
  <n.toNat/\ab 4 (sm (e n)/\h)/\k z)/\(o z n=false->r z n))/\(g n=false->True/\r z n)))=Sh z:=by kernel_rfl
theorem LQ(b:Bool)(l:Ω):(
 let e:=λ(x:Ω)=>(↑(tl x):Int)
 let c:=λ(x:Ω)=>(↑x.length:Int)
 let f:=λ(x:Ω)=>x.length=x.length/\∀i,i<x.length->sm (x.getD i 0)/\True
 let g:=ab 23 True
 let h:=List.map ar.shape ([ar.s SV.ff]++([ar.s SV.aq]++[]))
 let j:=h=h/\ab 2 True/\True
 let k:=λ(x:Int)=>decide (x>0)
 let d:=λ(x:Int)=>W (x-1)
 let o:=λ(x:Ω)(y:Int)=>x.getD (d y).toNat 0==0
 let p:=λ(x:Int)=>x==0
 let q:=λ(x:Int)(y:Bool)(u:Ω)=>(p x=true->ab 2 ((decide (zv y u<0)=false/\(dz (zv y u)).length=0/\True)/\True))/\(p x=false
  ->(x=x/\0<=x/\x<=c u)/\ab 2 ((y=decide (zv y u<0)/\(x.toNat=(dz (zv y u)).length/\∀i,i<x.toNat->u.getD i 0=(dz (zv y u)).getD i 0
  /\True)/\True)/\True))
 ab 2 (((e l<=c l/\c l<=c l)/\(b=b/\f l/\ab 3 (c l=c l/\g))/\j)/\∀(n:Int),e l<=n/\n<=c l->(k n=true->(0<=d n/\d n<c l)/\True/\(o l
  n=true->True/\(e l<=d n/\d n<=c l)/\(d n).toNat<n.toNat/\(b=b/\f l/\ab 3 (sm (d n)/\g))/\j)/\(o l n=false->True/\q n b l))/\(k n=false
  ->ab 2 (q n b l))))=Tp b l:=by kernel_rfl
theorem W_def(n:Int):IntKind.i64.wrap n=W n:=by unfold W;rfl
theorem Su(n:Int):IntKind.u64.wrap n=U n:=by unfold U;rfl
theorem V_def(n:Int):IntKind.u32.wrap n=V n:=by unfold V;rfl
theorem aO{n:Int}(b: -9223372036854775808<=n)(c:n<9223372036854775808):W n=n:=by
 unfold W;simp[IntKind.wrap,IntKind.bits,IntKind.signed];omega
theorem nt(n:Int):U n=n%18446744073709551616:=by
 unfold U;simp[IntKind.wrap,IntKind.bits,IntKind.signed]
theorem iA(n:Int):V n=n%4294967296:=by
 unfold V;simp[IntKind.wrap,IntKind.bits,IntKind.signed]
theorem ct{n:Int}(b:0<=n)(c:n<18446744073709551616):U n=n:=by rw[nt];omega
theorem Aj{n:Int}(b:0<=n)(c:n<4294967296):V n=n:=by rw[iA];omega
theorem IG{z:Int}(h:0<(dz z).length):(dz z).getD ((dz z).length-1) 0≠0:=(bI z).2 (by intro e;rw[e]at h;simp at h)
theorem oz{z:Int}:(dz z).length=0↔z=0:=by
 constructor
 . intro h;have b:dz z=[]:=Kr h;have:=Ox z;rw[b]at this;rw[<-this];unfold zv nv;split<;>rfl
 . rintro rfl;simp[dz,ur]
theorem dm{z:Int}(h:fit z):(dz z).length<=1000000:=by unfold fit at h;exact h
theorem qv{l:Ω}(h:br l):cO l:=by unfold br at h;exact h.1
theorem nz{l:Ω}(h:br l):l.length<=10000000:=by unfold br at h;exact h.2
theorem ER{l:Ω}(b:cO l)(c:l.length<=10000000):br l:=by unfold br;exact⟨b,c⟩
theorem dzL{z:Int}(h:fit z):br (dz z):=ER (bI z).1 (by have:=dm h;omega)
theorem k349:aH prog WM:=av (T:=[]) trivial hm func349 (by kernel_rfl) (by kernel_rfl) sZ.ok (by kernel_rfl) Z0 λz c=>by
 have h:Sh z:=by
  rw[<-PZ];simp only[aA];have k:=dm c;have d:= @IG _ z;have b:= @oz _ z;simp[-List.getD_eq_getElem?_getD];refine⟨λi=>?_,λe j=>?_⟩
  . rw[aO (by omega) (by omega),show((dz z).length-1:Int).toNat=(dz z).length-1 by omega];exact⟨by omega,λe=>absurd e (d i),λ_ j=>by omega⟩
  . subst_vars;rw[e]at b;simp at b;omega
 exact h
theorem Rw{b:Bool}{l:Ω}(h:cO l)(j:0<tl l):dz (zv b l)=l.take (tl l)/\decide (zv b l<0)=b:=by
 have d:=Af h;have c:l.take (tl l)≠[]:=by
  intro e;have i:=JM List.length e;have k:=cX l;rw[Kj,Kf]at i;omega
 have e:zv b l=zv b (l.take (tl l)):=by simp only[zv,xH]
 rw[e];exact TE d λ_=>c
theorem zv_null{b:Bool}{l:Ω}(h:tl l=0):zv b l=0:=by
 have:=Ik (wQ.1 h);unfold zv;rw[this];simp
theorem qX{l:Ω}{i n:Nat}(h:i<n):(l.take n).getD i 0=l.getD i 0:=by
 simp only[J0,Q6,JB h]
theorem k356:aH prog Uv:=av k349 hm func356 (by kernel_rfl) (by kernel_rfl) sBL.ok (by kernel_rfl) (λa=>YN a.2) λa c=>by
 have h:Tp a.1 a.2:=by
  rw[<-LQ];simp only[aA];obtain⟨b,l⟩:=a;dsimp only at c;have x:=nz c;have m:=qv c;have o:=cX l;have fin:∀n:Int,(tl l:Int)=n->(n=0->(decide (zv b l<0)=false/\(dz (zv b l)).length=0/\True)/\True)/\(¬n=0->(b=decide (zv b l<0))/\n.toNat=(dz (zv b l)).length/\∀i:Nat,i<n.toNat->l.getD i 0=(dz (zv b l)).getD i 0):=by
   intro n k;refine⟨λe=>?_,λe=>?_⟩
   . rw[zv_null (by omega)];simp[gz]
   . obtain⟨p,q⟩:=Rw (b:=b) m (by omega);rw[p,q];refine⟨rfl,by rw[Kj];omega,λi y=>(qX (by omega)).symm⟩
  simp[-List.getD_eq_getElem?_getD]at fin⊢;refine⟨o,λn r u=>⟨λk=>?_,λk=>?_⟩⟩
  . rw[aO (by omega) (by omega)];have d:=qQ (l:=l) (n:=n.toNat) (by omega) (by omega);rw[show n.toNat-1=(n-1).toNat by omega]at d;refine⟨by omega,λe=>⟨?_,by omega⟩,λe=>?_⟩
    . have:=d.1 ⟨by omega,e⟩;omega
    . have w: ¬tl l<n.toNat:=λj=>e (d.2 j).2
      have e:n=(tl l:Int):=by omega
      subst e;simp only[Int.natCast_eq_zero,K7,Z5];exact⟨λh=>absurd h (by omega),λh=>⟨by omega,fin.2 h⟩⟩
  . have e:n=(tl l:Int):=by omega
    subst e;simp only[Int.natCast_eq_zero,K7,Z5];exact⟨λh=>fin.1 h,λh=>absurd h (by omega)⟩
 exact h
def sU:=iR.one (DN .u64)
def sL:=iR.one GF
def To:=iR.cons GF sL
def DK:=iR.cons Rx sZ
def Ta:=iR.cons VI (iR.cons GF (iR.cons VI sL))
abbrev i32:Ou Int:=aF .u32
def aW(z:Int):Int:=if z<0 then-1 else if z=0 then 0 else 1
def jW(n:Int):Prop:=0<=n/\n<18446744073709551616
def fN(n:Int):Prop:= -9223372036854775808<=n/\n<9223372036854775808
def nU(a b:Ω):Int:=aW (nv a-nv b)
def pO(l:Ω):Prop:=canon l/\l.length<=10000000
def cf(a b:Ω):Ω:=dg (max a.length b.length+1) (nv a+nv b)
def oh(a b:Ω):Ω:=dg a.length (nv a-nv b)
def zL(a b:Ω):Prop:=br a/\br b/\b.length<=a.length/\nv b<=nv a
def tw(a b:Ω)(i:Int):Prop:= -1<=i/\i<a.length/\a.length=b.length/\a.drop (i+1).toNat=b.drop (i+1).toNat
def dk(a b:Ω)(i c:Int)(d:Ω):Prop:=0<=i/\i<=a.length/\b.length<=a.length/\d=dg i.toNat (nv (a.take i.toNat)+nv (b.take i.toNat))++List.replicate (a.length+1-i.toNat) 0/\c=(nv (a.take i.toNat)+nv (b.take i.toNat))/pw i.toNat
def gL(a b:Ω)(i c:Int)(d:Ω):Prop:=0<=i/\i<=a.length/\d=dg i.toNat (nv (a.take i.toNat)-nv (b.take i.toNat))++List.replicate (a.length-i.toNat) 0/\c= -((nv (a.take i.toNat)-nv (b.take i.toNat))/pw i.toNat)
attribute [irreducible] aW jW fN nU pO cf oh zL tw dk gL
def c306:bB:=ow sZ.dec (λa=>fit a) (λa=>zS a)
def Uh:List (Nat×bB):=(306,c306)::Uv
def SZ(z:Int):Prop:=fQ Uv f306 [] [zS z] (zS z)
def c380:bB:=ow sZ.dec (λa=>fit a) (λa=>iS (dz a).length)
def WW:List (Nat×bB):=(380,c380)::Uh
def Tn(z:Int):Prop:=fQ Uh f380 [] [zS z] (iS (dz z).length)
def c287:bB:=ow sZ.dec (λa=>fit a) (λa=>iS (aW a))
def Ur:List (Nat×bB):=(287,c287)::WW
def T1(z:Int):Prop:=fQ WW f287 [] [zS z] (iS (aW z))
def c355:bB:=ow sZ.dec (λa=>fit a) (λa=>zS (-a))
def Vc:List (Nat×bB):=(355,c355)::Ur
def TO(z:Int):Prop:=fQ Ur f355 [] [zS z] (zS (-z))
def c363:bB:=ow sZ.dec (λa=>fit a) (λa=>zS (a.natAbs:Int))
def VH:List (Nat×bB):=(363,c363)::Vc
def SB(z:Int):Prop:=fQ Vc f363 [] [zS z] (zS (z.natAbs:Int))
def c391:bB:=ow sU.dec (λa=>jW a) (λa=>zS a)
def U5:List (Nat×bB):=(391,c391)::VH
def Th(n:Int):Prop:=fQ VH f391 [] [.int .u64 n] (zS n)
def c291:bB:=ow sI.dec (λa=>fN a) (λa=>zS a)
def Vb:List (Nat×bB):=(291,c291)::U5
def vc291(n:Int):Prop:=fQ U5 f291 [] [iS n] (zS n)
def c405:bB:=ow sL.dec (λa=>br a) (λa=>lS (a.take (tl a)))
def U4:List (Nat×bB):=(405,c405)::Vb
def YZ(l:Ω):List kM:=[⟨.unit,.int .i64 (.tm 3),λ_ (n:Int)=>(tl l:Int)<=n/\n<=(l.length:Int),λ_ (n:Int)=>n.toNat⟩]
def SO(l:Ω):Prop:=fQ Vb f405 (YZ l) [lS l] (lS (l.take (tl l)))
def c359:bB:=ow To.dec (λa=>pO a.1/\pO a.2) (λa=>iS (nU a.1 a.2))
def Uw:List (Nat×bB):=(359,c359)::U4
def YC(a:Ω)(b:Ω):List kM:=[⟨.unit,.int .i64 (.tm 5),λ_ (i:Int)=>tw a b i,λ_ (i:Int)=>(i+1).toNat⟩]
def Sl(a:Ω)(b:Ω):Prop:=fQ U4 f359 (YC a b) [lS a,lS b] (iS (nU a b))
def c389:bB:=ow To.dec (λa=>br a.1/\br a.2) (λa=>lS (cf a.1 a.2))
def Ut:List (Nat×bB):=(389,c389)::Uw
def ZG(a:Ω)(b:Ω):List kM:=[⟨.pair (.rosL i32 (.tm 0)) (.rosL i32 (.tm 1)),.list [.int .i64 (.tm 22),.int .u64 (.tm 6),.iQ i32 (max a.length b.length+1) 0 0],λ(c:Ω×Ω)(x:Int×Int×Ω)=>dk c.1 c.2 x.1 x.2.1 x.2.2,λ(c:Ω×Ω)(x:Int×Int×Ω)=>(c.1.length-x.1).toNat⟩]
def TQ(a:Ω)(b:Ω):Prop:=fQ Uw f389 (ZG a b) [lS a,lS b] (lS (cf a b))
def c390:bB:=ow To.dec (λa=>zL a.1 a.2) (λa=>lS (oh a.1 a.2))
def VM:List (Nat×bB):=(390,c390)::Ut
def XZ(a:Ω)(b:Ω):List kM:=[⟨.unit,.list [.int .i64 (.tm 14),.int .u64 (.tm 6),.iQ i32 a.length 0 0],λ_ (x:Int×Int×Ω)=>gL a b x.1 x.2.1 x.2.2,λ_ (x:Int×Int×Ω)=>(a.length-x.1).toNat⟩]
def Sr(a:Ω)(b:Ω):Prop:=fQ Ut f390 (XZ a b) [lS a,lS b] (lS (oh a b))
theorem Nq(z:Int):(
 let e:=λ(x:Int)(y:Nat)=>(aF IntKind.u32).enc ((dz x).getD y 0)
 let c:=λ(x:Int)=>(dz (zz x)).length
 let d:=λ(x:Int)=>∀(j:Nat),j<c x->true=true
 let f:=λ(x:Int)(y:Nat)=>(aF IntKind.u32).enc ((dz (zz x)).getD (0+y) 0)
 ab 2 ((aj.ak [SV.bool (decide (z<0)),SV.bF 1 (dz z).length λi=>e z i]/\fit (zz z))/\True/\d z/\(c z<=140737488355328/\c z*4<=140737488355328)
  /\True/\(0+c z<=c z/\d z)/\((True/\∀i,i<c z->true=true/\True)/\br (ah (aF IntKind.u32) (c z) λi=>f z i))/\ab 2 ((decide (VB
  (zz z)<0)=decide (z<0)/\((dz (VB (zz z))).length=(dz z).length/\∀i,i<(dz (VB (zz z))).length->(dz (VB (zz z))).getD i 0=(dz z).getD i
  0/\True)/\True)/\True)))=SZ z:=by kernel_rfl
theorem N6(z:Int):(
 let c:=λ(x:Int)(y:Nat)=>(aF IntKind.u32).enc ((dz x).getD y 0)
 ab 2 ((aj.ak [SV.bool (decide (z<0)),SV.bF 1 (dz z).length λi=>c z i]/\fit (zz z))/\ab 3 (Eq (α:=Int) ↑(dz (zz z)).length ↑(dz z).length/\True)))=Tn z:=by kernel_rfl
theorem Ps(z:Int):(
 let d:=λ(x:Int)(y:Nat)=>(aF IntKind.u32).enc ((dz x).getD y 0)
 let c:=λ(x:Int)=> ↑(dz (zz x)).length==(0:Int)
 ab 2 ((aj.ak [SV.bool (decide (z<0)),SV.bF 1 (dz z).length λi=>d z i]/\fit (zz z))/\ab 2 ((c z=true->ab 2 (0=aW z/\True))/\(c z=false
  ->True/\(decide (zz z<0)=true->ab 2 (-1=aW z/\True))/\(decide (zz z<0)=false->ab 2 (1=aW z/\True))))))=T1 z:=by kernel_rfl
theorem Mn(z:Int):(
 let g:=λ(x:Int)(y:Nat)=>(aF IntKind.u32).enc ((dz x).getD y 0)
 let c:=λ(x:Int)=>(dz (zz x)).length
 let e:=λ(x:Int)=>∀(j:Nat),j<c x->true=true
 let h:=λ(x:Int)(y:Nat)=>(aF IntKind.u32).enc ((dz (zz x)).getD (0+y) 0)
 let f:=λ(x:Int)=>ah (aF IntKind.u32) (c x) λi=>h x i
 let d:=λ(x:Int)=>zv (!decide (zz x<0)) (f x)
 ab 2 ((aj.ak [SV.bool (decide (z<0)),SV.bF 1 (dz z).length λi=>g z i]/\fit (zz z))/\True/\e z/\(c z<=140737488355328/\c z*4<=140737488355328)
  /\True/\(0+c z<=c z/\e z)/\((True/\∀i,i<c z->true=true/\True)/\br (f z))/\ab 2 ((decide (d z<0)=decide (-z<0)/\((dz (d z)).length
  =(dz (-z)).length/\∀i,i<(dz (d z)).length->(dz (d z)).getD i 0=(dz (-z)).getD i 0/\True)/\True)/\True)))=TO z:=by kernel_rfl
theorem O2(z:Int):(
 let h:=λ(x:Int)(y:Nat)=>(aF IntKind.u32).enc ((dz x).getD y 0)
 let c:=λ(x:Int)=>(dz (zz x)).length
 let f:=λ(x:Int)=>∀(j:Nat),j<c x->true=true
 let k:=λ(x:Int)(y:Nat)=>(aF IntKind.u32).enc ((dz (zz x)).getD (0+y) 0)
 let d:=λ(x:Int)=>ah (aF IntKind.u32) (c x) λi=>k x i
 let e:=λ(x:Int)=>(↑x.natAbs:Int)
 let g:=λ(x:Int)=>(dz (zv false (d x))).length
 ab 2 ((aj.ak [SV.bool (decide (z<0)),SV.bF 1 (dz z).length λi=>h z i]/\fit (zz z))/\True/\f z/\(c z<=140737488355328/\c z*4<=140737488355328)
  /\True/\(0+c z<=c z/\f z)/\((True/\∀i,i<c z->true=true/\True)/\br (d z))/\ab 2 ((decide (zv false (d z)<0)=decide (e z<0)/\(g
  z=(dz (e z)).length/\∀i,i<g z->(dz (zv false (d z))).getD i 0=(dz (e z)).getD i 0/\True)/\True)/\True)))=SB z:=by kernel_rfl
theorem Oy(n:Int):(
 let c:=λ(x:Int)=>ah (aF IntKind.u32) 2 λi=>af (decide (0+i=1)) [SV.int .u32 (V (x/4294967296))] (af (decide (0+i=0)) [SV.int
  IntKind.u32 (V x)] [SV.int .u32 0])
 let d:=λ(x:Int)=>(dz (zv false (c x))).length
 True/\(0:Int)<=(32:Int)/\True/\((2:Nat)<=(2:Nat)/\∀i,i<(2:Nat)->true=true)/\((True/\∀i,i<(2:Nat)->true=true/\True)
  /\br (c n))/\ab (2:Nat) ((decide (zv false (c n)<(0:Int))=decide (n<(0:Int))/\(d n=(dz n).length/\∀i,i<d n->(dz (zv false (c n))).getD
  i (0:Int)=(dz n).getD i (0:Int)/\True)/\True)/\True))=Th n:=by kernel_rfl
theorem MV(n:Int):(
 let c:=λ(x:Int)=>decide (x<0)
 let g:=(0:Int)<=(32:Int)
 let h:=2<=2/\∀i,i<2->true=true
 let j:=True/\∀i,i<2->true=true/\True
 let k:=λ(x:Nat)=>decide (0+x=1)
 let d:=([]:List SV)
 let o:=λ(x:Nat)=>decide (0+x=0)
 let p:=SV.int .u32 0::d
 let e:=λ(x:Int)=>ah (aF IntKind.u32) 2 λi=>af (k i) (SV.int .u32 (V (U (0-U x)/4294967296))::d) (af (o i) (SV.int .u32
  (V (U (0-U x)))::d) p)
 let q:=λ(x:Int)=>(dz (zv (c x) (e x))).length
 let f:=λ(x:Int)=>ah (aF IntKind.u32) 2 λi=>af (k i) (SV.int .u32 (V (U x/4294967296))::d) (af (o i) (SV.int .u32 (V (U
  x))::d) p)
 let r:=λ(x:Int)=>(dz (zv (c x) (f x))).length
 ab 3 ((c n=true->True/\g/\True/\h/\(j/\br (e n))/\ab 2 ((decide (zv (c n) (e n)<0)=c n/\(q n=(dz n).length/\∀i,i<q n->(dz (zv (c
  n) (e n))).getD i 0=(dz n).getD i 0/\True)/\True)/\True))/\(c n=false->g/\True/\h/\(j/\br (f n))/\ab 2 ((decide (zv (c n) (f n)<0)=c n/\(r
  n=(dz n).length/\∀i,i<r n->(dz (zv (c n) (f n))).getD i 0=(dz n).getD i 0/\True)/\True)/\True))))=vc291 n:=by kernel_rfl
theorem Lt(l:Ω):(
 let e:=λ(x:Ω)=>(↑(tl x):Int)
 let c:=λ(x:Ω)=>(↑x.length:Int)
 let f:=λ(x:Ω)=>x.length=x.length/\∀i,i<x.length->sm (x.getD i 0)/\True
 let g:=ab 17 True
 let h:=λ(x:Int)=>decide (x>0)
 let d:=λ(x:Int)=>W (x-1)
 let j:=λ(x:Ω)(y:Int)=>x.getD (d y).toNat 0==0
 let k:=λ(x:Int)(y:Ω)=>((0:Int)<=(0:Int)/\(0:Int)<=x/\x<=c y)/\ab (2:Nat) (((x-(0:Int)).toNat=(List.take (tl y) y).length
  /\∀i,i<(x-(0:Int)).toNat->y.getD ((0:Nat)+i) (0:Int)=(List.take (tl y) y).getD i (0:Int)/\True)/\True)
 ab 2 (((e l<=c l/\c l<=c l)/\(f l/\ab 2 (c l=c l/\g))/\True)/\∀(n:Int),e l<=n/\n<=c l->(h n=true->(0<=d n/\d n<c l)/\True/\(j l n=
  true->True/\(e l<=d n/\d n<=c l)/\(d n).toNat<n.toNat/\(f l/\ab 2 (sm (d n)/\g))/\True)/\(j l n=false->k n l))/\(h n=false->True/\k n l)))=SO l:=by kernel_rfl
theorem MF(a:Ω)(b:Ω):(
 let c:=λ(x:Ω)=>(↑x.length:Int)
 let g:=λ(x y:Ω)=>c x !=c y
 let h:=λ(x y:Ω)=>ab 2 (-1=nU x y/\True)
 let j:=λ(x y:Ω)=>ab 2 (1=nU x y/\True)
 let e:=λ(x:Ω)=>x.length=x.length/\∀i,i<x.length->sm (x.getD i 0)/\True
 let k:=ab 35 True
 let o:=λ(x:Int)=>decide (x>=0)
 let f:=λ(x:Int)(y:Ω)=>0<=x/\x<c y
 let d:=λ(x:Ω)(y:Int)=>x.getD y.toNat 0
 let p:=λ(x y:Ω)(u:Int)=>d x u !=d y u
 ab 2 ((g a b=true->True/\(decide (c a<c b)=true->h a b)/\(decide (c a<c b)=false->j a b))/\(g a b=false->True/\(tw a b (W (c a-1))/\(e
  a/\e b/\ab 3 (sm (W (c a-1))/\k))/\True)/\∀(n:Int),tw a b n->True/\(o n=true->f n a/\f n b/\ru true/\(p a b n=true->f n a/\f n b/\ru
  true/\(decide (d a n<d b n)=true->h a b)/\(decide (d a n<d b n)=false->j a b))/\(p a b n=false->True/\tw a b (W (n-1))/\(W (n-1)+1).toNat
  <(n+1).toNat/\(e a/\e b/\ab 3 (sm (W (n-1))/\k))/\True))/\(o n=false->ab 2 (0=nU a b/\True)))))=Sl a b:=by kernel_rfl
theorem MT(a:Ω)(b:Ω):(
 let j:=λ(x:Ω)=>x.length
 let e:=λ(x:Ω)=>(↑(j x):Int)
 let t:=λ(x:Ω)=>W (e x+1)
 let K:=λ(x:Ω)=>sm (t x)/\0<=t x/\t x<=9223372036854775807/\4*t x<=281474976710656
 let f:=i32
 let c7:=λ(x:Ω)(m:Nat)=>(aF IntKind.u32).enc (x.getD m 0)
 let d:=λ(x:Ω)=>ah f (j x) λi=>c7 x i
 let c:=λ(x m:Ω)=>max (j x) (j m)+1
 let E:=λ(m Z:Ω)=>ah f (c m Z) λx=>[SV.int .u32 0]
 let k:=λ(x:Ω)=>j x=j x/\∀i,i<j x->sm (x.getD i 0)/\True
 let g:=λ(x:Ω)=>(t x).toNat
 let F:=λ(x:Ω)=>sm 0/\sm (g x)
 let L:=sm (0:Int)
 let M:=ab 35 True
 let N:=λ(x m:Ω)=>k x/\k m/\ab 3 (F x/\L/\ab 14 (e x=e x/\L/\M))
 let O:=([]:List (Option (Nat×Nat)))
 let o:=O=O
 let p:=1=f.n
 let h:=f.qW
 let P:=λ(x m:Ω)(Z:Nat)=>0=(E x m).getD Z h/\True
 let u:=λ(x:Int)(m:Ω)=>decide (x<e m)=true
 let v:=λ(x:Int)(m:Ω)=>0<=x/\x<e m
 let w:=(0:Int)<=(32:Int)
 let y:=λ(x:Int)(m:Ω)=>0<=x/\x< ↑(g m)
 let q:=λ(x:Int)=>0+x.toNat
 let r:=λ(x:Int)=>W (x+1)
 let s:=λ(x:Ω)(m Z:Int)=>U (U (x.getD m.toNat 0)+Z)
 let G:=λ(x m:Ω)(Z y1:Int)=>U (s x Z y1+U (m.getD Z.toNat 0))/4294967296
 let z:=λ(x:Nat)(m:Int)=>decide (x=q m)
 let Q:=λ(x:Ω)(m:Int)=>f.enc (x.getD (q m) h)
 let A:=λ(x m:Int)(Z y1 u1:Ω)=>λi'=>af (z i' x) (cE (Q Z x) 0 [SV.int .u32 (V (U (s y1 x m+U (u1.getD x.toNat 0))))]) (f.enc
  (Z.getD i' h))
 let R:=λ(x:Ω)=>(↑(d x).length:Int)
 let B:=λ(x:Ω)(m:Int)=>(R x-r m).toNat<(R x-m).toNat
 let T:=λ(x:Ω)(m:Int)=>ab 14 (e x=e x/\sm (r m)/\M)
 let c0:=λ(x m:Ω)(Z y1:Int)=>k x/\k m/\ab 3 (F x/\sm (G x m Z y1)/\T x Z)
 let c1:=λ(x:Nat)(m Z:Int)(y1 u1 v1:Ω)=>if z x m=true then V (U (s y1 m Z+U (u1.getD m.toNat 0)))else v1.getD x h
 let C:=λ(x:Int)(m:Ω)=>decide (x<e m)=false
 let H:=λ(x:Ω)(m Z:Int)=>s x m Z/4294967296
 let D:=λ(x m:Int)(Z y1:Ω)=>λi'=>af (z i' x) (cE (Q Z x) 0 [SV.int .u32 (V (s y1 x m))]) (f.enc (Z.getD i' h))
 let c2:=λ(x m:Ω)(Z y1:Int)=>k x/\k m/\ab 3 (F x/\sm (H x Z y1)/\T x Z)
 let c3:=λ(x:Nat)(m Z:Int)(y1 u1:Ω)=>if z x m=true then V (s y1 m Z)else u1.getD x h
 let c4:=λ(x:Ω)=>0<=e x/\e x< ↑(g x)
 let J:=λ(x:Ω)=>0+(e x).toNat
 let c5:=λ(x m:Ω)=>∀i,i<c x m->true=true
 let c6:=λ(x:Nat)(m Z:Ω)(y1:Int)=>if decide (0+x=J m)=true then V y1 else Z.getD (0+x) h
 ab 2 ((decide (e a<e b)=true->True/\K b/\ab 3 ((dk (d b) (d a) 0 0 (E a b)/\N b a/\o/\((g b=c a b/\p/\∀i,i<g b->P a b i)/\True)
  /\True)/\∀(n X:Int)(l:Ω),dk (d b) (d a) n X l->True/\(u n b->True/\v n b/\ab 2 ((u n a->v n a/\True/\w/\y n b/\q n<c a b/\ab
  2 (dk (d b) (d a) (r n) (G b a n X) (ah f (c a b) (A n X l b a))/\B b n/\c0 b a n X/\o/\((sm (c a b)/\p/\∀i,i<c a b->c1 i n X b
  a l=(ah f (c a b) (A n X l b a)).getD i h/\True)/\True)/\True))/\(C n a->w/\y n b/\q n<c a b/\ab 2 (dk (d b) (d a) (r n) (H b n X) (ah f
  (c a b) (D n X l b))/\B b n/\c2 b a n X/\o/\((sm (c a b)/\p/\∀i,i<c a b->c3 i n X b l=(ah f (c a b) (D n X l b)).getD i h/\True)
  /\True)/\True))))/\(C n b->c4 b/\J b<c a b/\ab 2 ((0+g b<=c a b/\c5 a b)/\(g b=(cf a b).length/\∀i,i<g b->c6 i b l X=(cf a b).getD
  i 0/\True)/\True))))/\(decide (e a<e b)=false->K a/\ab 3 ((dk (d a) (d b) 0 0 (E a b)/\N a b/\o/\((g a=c a b/\p/\∀i,i<g a->P a
  b i)/\True)/\True)/\∀(n X:Int)(l:Ω),dk (d a) (d b) n X l->True/\(u n a->True/\v n a/\ab 2 ((u n b->v n b/\True/\w/\y n a/\q n
  <c a b/\ab 2 (dk (d a) (d b) (r n) (G a b n X) (ah f (c a b) (A n X l a b))/\B a n/\c0 a b n X/\o/\((sm (c a b)/\p/\∀i,i<c a b->
  c1 i n X a b l=(ah f (c a b) (A n X l a b)).getD i h/\True)/\True)/\True))/\(C n b->w/\y n a/\q n<c a b/\ab 2 (dk (d a) (d b) (r n) (H a n
  X) (ah f (c a b) (D n X l a))/\B a n/\c2 a b n X/\o/\((sm (c a b)/\p/\∀i,i<c a b->c3 i n X a l=(ah f (c a b) (D n X l a)).getD
  i h/\True)/\True)/\True))))/\(C n a->c4 a/\J a<c a b/\ab 2 ((0+g a<=c a b/\c5 a b)/\(g a=(cf a b).length/\∀i,i<g a->c6 i a l X
  =(cf a b).getD i 0/\True)/\True))))))=TQ a b:=by kernel_rfl
theorem Nz(a:Ω)(b:Ω):(
 let c:=λ(x:Ω)=>x.length
 let d:=λ(x:Ω)=>(↑(c x):Int)
 let f:=i32
 let t:=λ(m:Ω)=>ah f (c m) λx=>[SV.int .u32 0]
 let h:=λ(x:Ω)=>c x=c x/\∀i,i<c x->sm (x.getD i 0)/\True
 let g:=λ(x:Ω)=>(d x).toNat
 let q:=λ(x:Ω)=>sm 0/\sm (g x)
 let u:=sm (0:Int)
 let v:=ab 29 True
 let w:=([]:List (Option (Nat×Nat)))
 let r:=w=w
 let s:=1=f.n
 let e:=f.qW
 let y:=(0:Int)<=(63:Int)
 let z:=λ(x:Int)(m:Ω)=>0<=x/\x< ↑(g m)
 let k:=λ(x:Int)=>0+x.toNat
 let o:=λ(x:Int)=>W (x+1)
 let j:=λ(x:Ω)(m J:Int)=>U (U (x.getD m.toNat 0)-J)
 let A:=λ(x m:Ω)(J K:Int)=>U (j x J K-U (m.getD J.toNat 0))/9223372036854775808
 let p:=λ(x:Nat)(m:Int)=>decide (x=k m)
 let B:=λ(x:Ω)(m:Int)=>f.enc (x.getD (k m) e)
 let C:=λ(x m J:Ω)(K M:Int)=>ah f (c x) λL=>af (p L K) (cE (B m K) 0 [SV.int .u32 (V (U (j x K M-U (J.getD K.toNat
  0))))]) (f.enc (m.getD L e))
 let D:=λ(x:Ω)(m:Int)=>(d x-o m).toNat<(d x-m).toNat
 let E:=λ(x:Ω)(m:Int)=>ab 6 (d x=d x/\sm (o m)/\v)
 let F:=λ(x:Ω)(m J:Int)=>j x m J/9223372036854775808
 let G:=λ(x m:Ω)(J K:Int)=>ah f (c x) λL=>af (p L J) (cE (B m J) 0 [SV.int .u32 (V (j x J K))]) (f.enc (m.getD L e))
 True/\(d a=d a/\0<=d a/\d a<=9223372036854775807/\4*d a<=281474976710656)/\ab 3 ((gL a b 0 0 (t a)/\(h a/\h b/\ab 3 (q a/\u/\ab 6 (d a=
  d a/\u/\v)))/\r/\((g a=c a/\s/\∀i,i<g a->0=(t a).getD i e/\True)/\True)/\True)/\∀(n H:Int)(l:Ω),gL a b n H l->True
  /\(decide (n<d a)=true->True/\(0<=n/\n<d a)/\ab 2 ((decide (n<d b)=true->(0<=n/\n<d b)/\True/\y/\z n a/\k n<c a/\ab 2 (gL a b (o
  n) (A a b n H) (C a l b n H)/\D a n/\(h a/\h b/\ab 3 (q a/\sm (A a b n H)/\E a n))/\r/\((c a=c a/\s/\∀i,i<c a->(if p i n=true then
  V (U (j a n H-U (b.getD n.toNat 0)))else l.getD i e)=(C a l b n H).getD i e/\True)/\True)/\True))/\(decide (n<d b)=false->y/\z n a/\k n<c a
  /\ab 2 (gL a b (o n) (F a n H) (G a l n H)/\D a n/\(h a/\h b/\ab 3 (q a/\sm (F a n H)/\E a n))/\r/\((c a=c a/\s/\∀i,i<c a->(if
  p i n=true then V (j a n H)else l.getD i e)=(G a l n H).getD i e/\True)/\True)/\True))))/\(decide (n<d a)=false->True/\(0+g a<=c a/\∀(i:
  Nat),i<c a->true=true)/\(g a=(oh a b).length/\∀i,i<g a->l.getD (0+i) e=(oh a b).getD i 0/\True)/\True)))=Sr a b:=by kernel_rfl
theorem dz_neg(z:Int):dz (-z)=dz z:=by simp[dz]
theorem GM{n:Int}(h:jW n):0<=n/\n<18446744073709551616:=by unfold jW at h;exact h
theorem Nt{n:Int}(h:fN n): -9223372036854775808<=n/\n<9223372036854775808:=by unfold fN at h;exact h
theorem Ph{l:Ω}(b:canon l)(c:l.length<=10000000):pO l:=by unfold pO;exact⟨b,c⟩
theorem OH{l:Ω}(h:pO l):canon l:=by unfold pO at h;exact h.1
theorem Gm{l:Ω}(h:pO l):l.length<=10000000:=by unfold pO at h;exact h.2
theorem dzC{z:Int}(h:fit z):pO (dz z):=Ph (bI z) (by have:=dm h;omega)
theorem Ds{n:Int}(h:jW n):br [V n,V (n/4294967296)]/\nv [V n,V (n/4294967296)]=n:=by
 have:=GM h;refine⟨ER (eP.2 ⟨?_,eP.2 ⟨?_,kP⟩⟩) (by simp),?_⟩
 . rw[iA];exact⟨by omega,by omega⟩
 . rw[iA];exact⟨by omega,by omega⟩
 . simp only[nv,iA];omega
@[simp] theorem row2{x y z:Int}:ah (aF .u32) 2 (λi=>af (decide (i=1)) [SV.int .u32 y] (af (decide (i=0)) [SV.int .u32 x] [SV.int .u32 z]))=[x,y]:=by
 refine kj rfl λi b=>?_
 match i,b with
 |0,_=>simp[aF,rI,af,dY]
 |1,_=>simp[aF,rI,af,dY]
theorem iB(z:Int):nv (dz z)=(z.natAbs:Int):=Tf _
@[simp] theorem zv_not(z:Int):zv (!decide (z<0)) (dz z)= -z:=by
 have:=iB z
 by_cases h:z<0<;>simp[zv,h,this]<;>omega
@[simp] theorem PH(z:Int):zv false (dz z)=(z.natAbs:Int):=by simp[zv,iB]
theorem w9{a b:Ω}(c:canon a)(d:canon b)(h:a.length<b.length):nv a<nv b:=by
 have i:=fV c.1;have j:=nq d (by intro e;rw[e]at h;simp at h);have k:=gT (a:=a.length) (b:=b.length-1) (by omega);omega
theorem Oa(l:Ω)(i:Nat)(h:i<l.length):nv l=nv (l.take i)+pw i*l.getD i 0+pw (i+1)*nv (l.drop (i+1)):=by
 rw[Oo l (i+1) (by omega),fv l i]
theorem cmp_dig{a b:Ω}(c:cO a)(d:cO b){i:Nat}(e:i<a.length)(m:a.length=b.length)(j:a.drop (i+1)=b.drop (i+1))(h:a.getD i 0<b.getD i 0):nv a<nv b:=by
 rw[Oa a i e,Oa b i (by omega),j];have o:=cm c i;have p:=cm d i;have k:pw i*(a.getD i 0+1)<=pw i*b.getD i 0:=Jt (by omega) (by have:=bN i;omega);rw[Kg,Ke]at k;omega
theorem I8{a b:Ω}(h:nv a<nv b):nU a b= -1:=by unfold nU aW;rw[JB (by omega)]
theorem Ih{a b:Ω}(h:nv b<nv a):nU a b=1:=by unfold nU aW;rw[JA (by omega),JA (by omega)]
theorem QJ{a b:Ω}(h:nv a=nv b):nU a b=0:=by unfold nU aW;rw[JA (by omega),JB (by omega)]
theorem Mi{a b:Ω}(h:b.length<=a.length):dk a b 0 0 (List.replicate (a.length+1) 0):=by
 unfold dk;simp[dg,nv,fh,h]
theorem P3{a b:Ω}(c:cO a)(d:cO b)(i:Nat):0<=(nv (a.take i)+nv (b.take i))/pw i/\(nv (a.take i)+nv (b.take i))/pw i<2:=by
 have e:=cm c i;have h:=cm d i;exact sJ (by omega) (by omega)
theorem zg{a b:Ω}{i c:Int}{d:Ω}(h:dk a b i c d):d.length=a.length+1:=by
 unfold dk at h;obtain⟨e,j,k,rfl,m⟩:=h;simp;omega
theorem F5{a b:Ω}{i c:Int}{d:Ω}(k:cO a)(j:cO b)(p:a.length<=10000000)(h:dk a b i c d)(q:i<a.length):
 0<=c/\c<2/\∀s,s=a.getD i.toNat 0+c+b.getD i.toNat 0->dk a b (W (i+1)) (s/4294967296) (d.set i.toNat (V s)):=by
 unfold dk at h⊢;obtain⟨r,u,m,o,w⟩:=h;have j:=P3 k j i.toNat;refine⟨by omega,by omega,λs x=>?_⟩;rw[aO (by omega) (by omega),show(i+1).toNat=i.toNat+1 by omega];have e:nv (a.take (i.toNat+1))+nv (b.take (i.toNat+1))=nv (a.take i.toNat)+nv (b.take i.toNat)+pw i.toNat*(a.getD i.toNat 0+b.getD i.toNat 0):=by
  rw[fv,fv,Kg];omega
 have es:s=(nv (a.take i.toNat)+nv (b.take i.toNat))/pw i.toNat+(a.getD i.toNat 0+b.getD i.toNat 0):=by omega
 refine⟨by omega,by omega,m,?_,?_⟩
 . rw[e];exact aaO o (by omega) (by rw[iA,es])
 . rw[e,lH,es]
theorem Hp{a b:Ω}{i c:Int}{d:Ω}(m:cO a)(k:cO b)(h:dk a b i c d)(q:(a.length:Int)<=i):d.set a.length (V c)=cf a b/\cf b a=cf a b:=by
 unfold dk at h;obtain⟨r,u,j,o,p⟩:=h;have e:i=(a.length:Int):=by omega
 subst e;simp only[K7]at*
 have k:=P3 m k a.length;have:=aaO (t:=0) (v:=V c) o (by omega) (by rw[iA,p];simp);rw[this];unfold cf;rw[Nat.max_eq_left j,Nat.max_eq_right j,Jz (J1 _),Jz j];simp[Int.add_comm]
theorem zD(a b:Ω):(cf a b).length=max a.length b.length+1:=by unfold cf;simp
theorem Lk{a b:Ω}(o:br a)(p:br b)(q:b.length<=a.length){R:Ω}(y:cf a b=R){N:Nat}(z:N=a.length+1):
 (0<=W (↑a.length+1)/\W (↑a.length+1)<=9223372036854775807/\4*W (↑a.length+1)<=281474976710656)/\
  (dk a b 0 0 (List.replicate N 0)/\
   (W (↑a.length+1)).toNat=N/\
    ∀(i:Nat),↑i<W (↑a.length+1)->(0:Int)=(List.replicate N 0).getD i 0)/\
   ∀(n d:Int)(l:Ω),
    dk a b n d l->
     (n< ↑a.length->
      (0<=n/\n< ↑a.length)/\
       (n< ↑b.length->
        (0<=n/\n< ↑b.length)/\
         (0<=n/\n<max (W (↑a.length+1)) 0)/\
          n< ↑N/\
           dk a b (W (n+1))
            (U (U (U (a.getD n.toNat 0)+d)+U (b.getD n.toNat 0))/4294967296)
            (ah i32 N λj=>
             af (decide (j=n.toNat))
              [SV.int .u32
               (V (U (U (U (a.getD n.toNat 0)+d)+U (b.getD n.toNat 0))))]
              [SV.int .u32 (l.getD j 0)])/\
            max (↑a.length-W (n+1)) 0< ↑a.length-n/\
             ∀(i:Nat),
              i<N->
               (if i=n.toNat then V (U (U (U (a.getD n.toNat 0)+d)+U (b.getD n.toNat 0)))
                else l.getD i 0)=
                (ah i32 N λj=>
                 af (decide (j=n.toNat))
                  [SV.int .u32
                   (V (U (U (U (a.getD n.toNat 0)+d)+U (b.getD n.toNat 0))))]
                  [SV.int .u32 (l.getD j 0)]).getD
                 i 0)/\
        (↑b.length<=n->
         (0<=n/\n<max (W (↑a.length+1)) 0)/\
          n< ↑N/\
           dk a b (W (n+1)) (U (U (a.getD n.toNat 0)+d)/4294967296)
            (ah i32 N λj=>
             af (decide (j=n.toNat))
              [SV.int .u32 (V (U (U (a.getD n.toNat 0)+d)))]
              [SV.int .u32 (l.getD j 0)])/\
            max (↑a.length-W (n+1)) 0< ↑a.length-n/\
             ∀(i:Nat),
              i<N->
               (if i=n.toNat then V (U (U (a.getD n.toNat 0)+d))else l.getD i 0)=
                (ah i32 N λj=>
                 af (decide (j=n.toNat))
                  [SV.int .u32 (V (U (U (a.getD n.toNat 0)+d)))]
                  [SV.int .u32 (l.getD j 0)]).getD
                 i 0))/\
      (↑a.length<=n->
       ↑a.length<max (W (↑a.length+1)) 0/\
        a.length<N/\
         W (↑a.length+1)<= ↑N/\
          (W (↑a.length+1)).toNat=R.length/\
           ∀(i:Nat),
            ↑i<W (↑a.length+1)->
             (if i=a.length then V d else l.getD i 0)=R.getD i 0):=by
 have A:=nz o;have o:=qv o;have p:=qv p;subst y;subst z;rw[aO (n:= ↑a.length+1) (by omega) (by omega)];refine⟨by omega,⟨Mi q,by omega,λi x=>(gR _ _).symm⟩,λn c l h=>⟨λw=>?_,λw=>?_⟩⟩
 . obtain⟨B,C,k⟩:=F5 o p A h w;have m:=zg h;have r:0<=n:=by unfold dk at h;exact h.1
   have D:=bH o n.toNat;have E:=bH p n.toNat;have F:W (n+1)=n+1:=aO (by omega) (by omega);rw[ct (n:=a.getD n.toNat 0) (by omega) (by omega),ct (n:=a.getD n.toNat 0+c) (by omega) (by omega)];refine⟨⟨r,w⟩,λu=>?_,λu=>?_⟩
   . rw[ct (n:=b.getD n.toNat 0) (by omega) (by omega),ct (by omega) (by omega)];rw[tv m.symm];exact⟨⟨r,u⟩,by omega,by omega,k _ rfl,by omega,λi x=>(bo (by omega)).symm⟩
   . rw[tv m.symm];have G:b.getD n.toNat 0=0:=by rw[J0,J7 (by omega)];rfl
     exact⟨by omega,by omega,k _ (by omega),by omega,λi x=>(bo (by omega)).symm⟩
 . obtain⟨e,_⟩:=Hp o p h w;have m:=zg h;refine⟨by omega,by omega,by omega,?_,λi x=>?_⟩
   . rw[zD,Nat.max_eq_left q];omega
   . rw[<-e,bo (by omega)]
theorem WK{a b:Ω}(d:cO a)(e:cO b)(i:Nat): -1<=(nv (a.take i)-nv (b.take i))/pw i/\(nv (a.take i)-nv (b.take i))/pw i<=0:=by
 have h:=cm d i;have j:=cm e i;have c:=bN i;refine⟨?_,?_⟩
 . rw[Qp c];omega
 . have:(nv (a.take i)-nv (b.take i))/pw i<1:=(Kl c).2 (by omega);omega
theorem Hf{a b:Ω}{i c:Int}{d:Ω}(h:gL a b i c d):d.length=a.length:=by
 unfold gL at h;obtain⟨e,j,rfl,k⟩:=h;simp;omega
theorem Mb(a b:Ω):gL a b 0 0 (List.replicate a.length 0):=by
 unfold gL;simp[dg,nv,fh]
theorem FC{a b:Ω}{i c:Int}{d:Ω}(j:cO a)(k:cO b)(p:a.length<=10000000)(h:gL a b i c d)(q:i<a.length):
 0<=c/\c<=1/\∀s,s=a.getD i.toNat 0-c-b.getD i.toNat 0->gL a b (W (i+1)) (U s/9223372036854775808) (d.set i.toNat (V (U s))):=by
 unfold gL at h⊢;obtain⟨r,u,m,w⟩:=h;have o:=WK j k i.toNat;refine⟨by omega,by omega,λs x=>?_⟩;have y:=bH j i.toNat;have z:=bH k i.toNat;rw[aO (by omega) (by omega),show(i+1).toNat=i.toNat+1 by omega];have e:nv (a.take (i.toNat+1))-nv (b.take (i.toNat+1))=nv (a.take i.toNat)-nv (b.take i.toNat)+pw i.toNat*(a.getD i.toNat 0-b.getD i.toNat 0):=by
  rw[fv,fv,Qm];omega
 have es:s=(nv (a.take i.toNat)-nv (b.take i.toNat))/pw i.toNat+(a.getD i.toNat 0-b.getD i.toNat 0):=by omega
 refine⟨by omega,by omega,?_,?_⟩
 . rw[e];refine aaO m (by omega) ?_;rw[iA,nt,<-es];omega
 . rw[e,lH,<-es,nt];omega
theorem H7{a b:Ω}{i c:Int}{d:Ω}(h:gL a b i c d)(m:(a.length:Int)<=i)(j:b.length<=a.length):d=oh a b:=by
 unfold gL at h;obtain⟨o,p,k,q⟩:=h;have e:i=(a.length:Int):=by omega
 subst e;simp only[K7]at*
 rw[k];unfold oh;rw[Jz (J1 _),Jz j];simp
theorem Fh(a b:Ω):(oh a b).length=a.length:=by unfold oh;simp
theorem Ll{a b:Ω}(h:zL a b):br a/\br b/\b.length<=a.length/\nv b<=nv a:=by unfold zL at h;exact h
theorem XG:aH prog Uh:=av k356 hm func306 (by kernel_rfl) (by kernel_rfl) sZ.ok (by kernel_rfl) (λ_=>[]) λa b=>by
 have h:SZ a:=by
  rw[<-Nq];simp only[aA];generalize a=z at*
  try dsimp only at b
  have d:=dm b;have c:=dzL b;simp[-List.getD_eq_getElem?_getD,b,c];omega
 exact h
theorem k380:aH prog WW:=av XG hm func380 (by kernel_rfl) (by kernel_rfl) sZ.ok (by kernel_rfl) (λ_=>[]) λa b=>by
 have h:Tn a:=by
  rw[<-N6];simp only[aA];generalize a=z at*
  try dsimp only at b
  simp[-List.getD_eq_getElem?_getD,b]
 exact h
theorem k287:aH prog Ur:=av k380 hm func287 (by kernel_rfl) (by kernel_rfl) sZ.ok (by kernel_rfl) (λ_=>[]) λa b=>by
 have h:T1 a:=by
  rw[<-Ps];simp only[aA];generalize a=z at*
  try dsimp only at b
  have c:= @oz _ z;simp[-List.getD_eq_getElem?_getD,b];simp at c;unfold aW;refine⟨λh=>?_,λh=>⟨λh=>?_,λh=>?_⟩⟩<;>simp_all<;>omega
 exact h
theorem k355:aH prog Vc:=av k287 hm func355 (by kernel_rfl) (by kernel_rfl) sZ.ok (by kernel_rfl) (λ_=>[]) λa b=>by
 have h:TO a:=by
  rw[<-Mn];simp only[aA];generalize a=z at*
  try dsimp only at b
  have d:=dm b;have c:=dzL b;simp[-List.getD_eq_getElem?_getD,b,c];omega
 exact h
theorem k363:aH prog VH:=av k355 hm func363 (by kernel_rfl) (by kernel_rfl) sZ.ok (by kernel_rfl) (λ_=>[]) λa b=>by
 have h:SB a:=by
  rw[<-O2];simp only[aA];generalize a=z at*
  try dsimp only at b
  have d:=dm b;have c:=dzL b;simp[-List.getD_eq_getElem?_getD,b,c];omega
 exact h
theorem k391:aH prog U5:=av k363 hm func391 (by kernel_rfl) (by kernel_rfl) sU.ok (by kernel_rfl) (λ_=>[]) λa b=>by
 have h:Th a:=by
  rw[<-Oy];simp only[aA];generalize a=n at*
  try dsimp only at b
  obtain⟨c,d⟩:=Ds b;have e:zv false [V n,V (n/4294967296)]=n:=by simp only[zv,d];rfl
  simp[-List.getD_eq_getElem?_getD,c,e]
 exact h
theorem k291:aH prog Vb:=av k391 hm func291 (by kernel_rfl) (by kernel_rfl) sI.ok (by kernel_rfl) (λ_=>[]) λa i=>by
 have h:vc291 a:=by
  rw[<-MV];simp only[aA];generalize a=n at*
  try dsimp only at i
  have j:=Nt i;simp[-List.getD_eq_getElem?_getD];refine⟨λh=>?_,λh=>?_⟩
  . have b:U (-U n)= -n:=by rw[nt,nt];omega
    rw[b];obtain⟨c,d⟩:=Ds (n:= -n) (by unfold jW;omega);have e:zv (decide (n<0)) [V (-n),V (-n/4294967296)]=n:=by simp only[zv,d,h];simp
    rw[e];exact⟨c,by simp⟩
  . have b:U n=n:=by rw[nt];omega
    rw[b];obtain⟨c,d⟩:=Ds (n:=n) (by unfold jW;omega);have e:zv (decide (n<0)) [V n,V (n/4294967296)]=n:=by simp only[zv,d];simp;omega
    rw[e];exact⟨c,by simp⟩
 exact h
theorem k405:aH prog U4:=av k291 hm func405 (by kernel_rfl) (by kernel_rfl) sL.ok (by kernel_rfl) (λa=>YZ a) λa d=>by
 have h:SO a:=by
  rw[<-Lt];simp only[aA];generalize a=l at*
  try dsimp only at d
  have r:=nz d;have j:=cX l;simp[-List.getD_eq_getElem?_getD];refine⟨j,λn k m=>⟨λo=>?_,λo=>?_⟩⟩
  . rw[aO (by omega) (by omega)];have b:=qQ (l:=l) (n:=n.toNat) (by omega) (by omega);rw[show n.toNat-1=(n-1).toNat by omega]at b;refine⟨by omega,λe=>⟨?_,by omega⟩,λe=>?_⟩
    . have:=b.1 ⟨by omega,e⟩;omega
    . have p: ¬tl l<n.toNat:=λc=>e (b.2 c).2
      exact⟨by omega,by omega,λi q=>(qX (by omega)).symm⟩
  . exact⟨by omega,by omega,λi q=>(qX (by omega)).symm⟩
 exact h
theorem k359:aH prog Uw:=av k405 hm func359 (by kernel_rfl) (by kernel_rfl) To.ok (by kernel_rfl) (λa=>YC a.1 a.2) λa c=>by
 have h:Sl a.1 a.2:=by
  rw[<-MF];simp only[aA];obtain⟨a,b⟩:=a
  try dsimp only at c
  simp[-List.getD_eq_getElem?_getD];have j:=OH c.1;have k:=OH c.2;have y:=Gm c.1;have z:=Gm c.2;refine⟨λh=>⟨λh=>(I8 (w9 j k h)).symm,λh=>(Ih (w9 k j (by omega))).symm⟩,λA=>⟨?_,λn p=>?_⟩⟩
  . rw[aO (by omega) (by omega)];unfold tw;refine⟨by omega,by omega,by omega,?_⟩;rw[Yf (by omega),Yf (by omega)]
  . unfold tw at p⊢;obtain⟨B,C,m,d⟩:=p;refine⟨λr=>?_,λr=>?_⟩
    . have u:W (n-1)=n-1:=aO (by omega) (by omega);rw[u];rw[show(n+1).toNat=n.toNat+1 by omega]at d;refine⟨by omega,by omega,λw=>⟨by omega,by omega,λo=>?_,λx=>?_⟩,λq=>⟨⟨by omega,by omega,m,?_⟩,by omega⟩⟩
      . exact(I8 (cmp_dig j.1 k.1 (by omega) m d o)).symm
      . exact(Ih (cmp_dig k.1 j.1 (by omega) m.symm d.symm (by omega))).symm
      . rw[show(n-1+1).toNat=n.toNat by omega,Qa (by omega),Qa (i:=n.toNat) (by omega),d];simp only[J0,J4 (show n.toNat<a.length by omega),J4 (show n.toNat<b.length by omega),K5]at q;rw[q]
    . have e:n= -1:=by omega
      subst e;simp at d;rw[d,QJ rfl]
 exact h
theorem k389:aH prog Ut:=av k359 hm func389 (by kernel_rfl) (by kernel_rfl) To.ok (by kernel_rfl) (λa=>ZG a.1 a.2) λa c=>by
 have h:TQ a.1 a.2:=by
  rw[<-MT];simp only[aA];obtain⟨a,b⟩:=a
  try dsimp only at c
  simp[-List.getD_eq_getElem?_getD];refine⟨λh=>?_,λh=>?_⟩
  . have:=Lk c.2 c.1 (by omega) (R:=cf a b) (by unfold cf;rw[Nat.max_comm,Int.add_comm]) (N:=max a.length b.length+1) (by omega);simpa only[Int.natCast_add,Int.cast_ofNat_Int]using this
  . have:=Lk c.1 c.2 (by omega) (R:=cf a b) rfl (N:=max a.length b.length+1) (by omega);simpa only[Int.natCast_add,Int.cast_ofNat_Int]using this
 exact h
theorem k390:aH prog VM:=av k389 hm func390 (by kernel_rfl) (by kernel_rfl) To.ok (by kernel_rfl) (λa=>XZ a.1 a.2) λa q=>by
 have h:Sr a.1 a.2:=by
  rw[<-Nz];simp only[aA];obtain⟨a,b⟩:=a
  try dsimp only at q
  obtain⟨r,y,z,B⟩:=Ll q;have A:=nz r;have u:=qv r;have w:=qv y;simp[-List.getD_eq_getElem?_getD];refine⟨by omega,⟨Mb a b,λi x=>(gR _ _).symm⟩,λn c l d=>⟨λm=>?_,λm=>?_⟩⟩
  . obtain⟨C,D,j⟩:=FC u w A d m;have k:=Hf d;have o:0<=n:=by unfold gL at d;exact d.1
    have E:=bH u n.toNat;have F:=bH w n.toNat;have G:W (n+1)=n+1:=aO (by omega) (by omega);rw[ct (n:=a.getD n.toNat 0) (by omega) (by omega)];refine⟨⟨o,m⟩,λp=>?_,λp=>?_⟩
    . rw[ct (n:=b.getD n.toNat 0) (by omega) (by omega)];have e:U (U (a.getD n.toNat 0-c)-b.getD n.toNat 0)=U (a.getD n.toNat 0-c-b.getD n.toNat 0):=by
       simp only[nt];omega
      rw[e,tv k.symm];have:=j _ rfl
      and_intros<;>first|omega|assumption|exact λi x=>(bo (by omega)).symm
    . have H:b.getD n.toNat 0=0:=by rw[J0,J7 (by omega)];rfl
      rw[tv k.symm];have:=j (a.getD n.toNat 0-c) (by omega)
      and_intros<;>first|omega|assumption|exact λi x=>(bo (by omega)).symm
  . have e:=H7 d m z;rw[Fh,<-e];exact⟨rfl,λ_ _=>rfl⟩
 exact h
end Go.Proofs.Big
