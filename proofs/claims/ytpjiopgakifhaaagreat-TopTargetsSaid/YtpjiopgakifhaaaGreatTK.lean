import Derived.Test.YtpjiopgakifhaaaGreatTD
import Derived.Test.YtpjiopgakifhaaaGreatTJ
import Derived.Test.YtpjiopgakifhaaaGreatProg
import Derived.KernelRfl
set_option linter.unusedSectionVars false
set_option linter.unusedSimpArgs false
set_option linter.unusedVariables false
set_option maxRecDepth 100000
namespace Go.Proofs.Big
def pw (k:Nat):Int:=4294967296^k
theorem fh :pw 0=1:=by simp [pw]
theorem bD (k:Nat):pw (k+1)=4294967296*pw k:=by simp only [pw,Kk];omega
theorem aE (k:Nat):0<pw k:=by unfold pw;exact Int.pow_pos (by omega)
theorem uE (k:Nat):pw k≠0:=by have:=aE k;omega
theorem gG (a b:Nat):pw (a+b)=pw a*pw b:=by simp only [pw,Int.pow_add]
theorem fE (k:Nat):pw k=2^(32*k):=by
 induction k with
 |zero=>rfl
 |succ k ih=>rw [bD,ih,show 32*(k+1)=32*k+32 by omega,Int.pow_add];omega
theorem gT {a b:Nat} (h:a<=b):pw a<=pw b:=by
 obtain⟨c,rfl⟩:=Nat.le.dest h;rw [gG];have h1:=aE a;have h2:=aE c;have:pw a*1<=pw a*pw c:=Jt (by omega) (by omega);omega
attribute [irreducible] pw
abbrev GD (x:Int):Prop:=0<=x/\x<4294967296
def cO (l:List Int):Prop:= ∀x∈l,GD x
def nv :List Int->Int
 |[]=>0
 |x::r=>x+4294967296*nv r
def dg :Nat->Int->List Int
 |0,_=>[]
 |k+1,z=>z%4294967296::dg k (z/4294967296)
@[simp] theorem mL (k:Nat) (z:Int):(dg k z).length=k:=by
 induction k generalizing z with
 |zero=>rfl
 |succ k ih=>simp [dg,ih]
theorem kP :cO []:=by intro x h;cases h
theorem eP {x:Int} {r:List Int}:cO (x::r)↔GD x/\cO r:=by simp [cO]
theorem Fs {a b:List Int}:cO (a++b)↔cO a/\cO b:=by
 simp only [cO,Xt];exact⟨fun h=>⟨fun x hx=>h x (.inl hx),fun x hx=>h x (.inr hx)⟩,fun h x hx=>hx.elim (h.1 x) (h.2 x)⟩
theorem mN {a:List Int} (h:cO a) (k:Nat):cO (a.take k):=fun x hx=>h x (Zg hx)
theorem PI (k:Nat):cO (List.replicate k 0):=fun x hx=>by
 have:=List.eq_of_mem_replicate hx;subst this;omega
theorem bH {l:List Int} (h:cO l) (i:Nat):GD (l.getD i 0):=by
 by_cases hi:i<l.length
 . rw [J0,J4 hi];exact h _ (Ku hi)
 . rw [J0,J7 (by omega)];exact⟨by simp,by simp⟩
theorem mo (k:Nat) (z:Int):cO (dg k z):=by
 induction k generalizing z with
 |zero=>exact kP
 |succ k ih=>exact eP.2 ⟨by omega,ih _⟩
theorem fV {l:List Int} (h:cO l):0<=nv l/\nv l<pw l.length:=by
 induction l with
 |nil=>simp [nv,fh]
 |cons x r ih=>
  obtain⟨h1,h2⟩:=eP.1 h;have:=ih h2;simp only [nv,Jc,bD];omega
theorem vw (a b:List Int):nv (a++b)=nv a+pw a.length*nv b:=by
 induction a with
 |nil=>simp [nv,fh]
 |cons x r ih=>
  simp only [K0,nv,ih,Jc,bD];rw [Kg,Jk];omega
theorem W2 (k:Nat):nv (List.replicate k 0)=0:=by
 induction k with
 |zero=>rfl
 |succ k ih=>simp [Qy,nv,ih]
theorem l9 (z:Int) (k:Nat):z/4294967296/pw k=z/pw (k+1):=by
 rw [bD,Qd (by omega)]
theorem cq (z:Int) (k:Nat):z/pw k/4294967296=z/pw (k+1):=by
 rw [bD,J6,Qd (by have:=aE k;omega)]
theorem wc {k:Nat} {z:Int} (h0:0<=z) (h1:z<pw k):nv (dg k z)=z:=by
 induction k generalizing z with
 |zero=>rw [fh]at h1;simp [dg,nv];omega
 |succ k ih=>
  rw [bD]at h1;simp only [dg,nv];rw [ih (by omega) (by omega)];omega
theorem T5 (k:Nat) (z:Int):nv (dg k z)=z%pw k:=by
 induction k generalizing z with
 |zero=>simp [dg,nv,fh,Int.emod_one]
 |succ k ih=>
  simp only [dg,nv];rw [ih];have h1:=X2 (z/4294967296) (pw k);have h2:=X2 z (pw (k+1));rw [h1,h2,l9,bD,Qm,Jk];omega
theorem PD {l:List Int} (h:cO l):dg l.length (nv l)=l:=by
 induction l with
 |nil=>rfl
 |cons x r ih=>
  obtain⟨h1,h2⟩:=eP.1 h;have:=fV h2;simp only [Jc,dg,nv];rw [show(x+4294967296*nv r)%4294967296=x by omega,show(x+4294967296*nv r)/4294967296=nv r by omega,ih h2]
theorem re (k:Nat) (z:Int):dg (k+1) z=dg k z++[z/pw k%4294967296]:=by
 induction k generalizing z with
 |zero=>simp [dg,fh]
 |succ k ih=>
  rw [dg,ih,l9];rfl
theorem tA {k i:Nat} (z:Int) (h:i<k):(dg k z).getD i 0=z/pw i%4294967296:=by
 induction k generalizing z i with
 |zero=>omega
 |succ k ih=>
  cases i with
  |zero=>simp [dg,fh]
  |succ i=>
   simp only [dg,Zb];rw [ih _ (by omega),l9]
theorem CQ (k:Nat) (z t:Int):dg k (z+pw k*t)=dg k z:=by
 induction k generalizing z t with
 |zero=>rfl
 |succ k ih=>
  simp only [dg,bD];rw [Jk,Yg,X3 _ _ (by omega),ih]
theorem nw (k:Nat) (z t:Int):(z+pw k*t)/pw k=z/pw k+t:=by
 rw [X3 _ _ (uE k)]
theorem uL (k:Nat) (z t:Int):dg (k+1) (z+pw k*t)=dg k z++[(z/pw k+t)%4294967296]:=by
 rw [re,CQ,nw]
theorem lH (k:Nat) (z t:Int):(z+pw k*t)/pw (k+1)=(z/pw k+t)/4294967296:=by
 rw [<-cq,nw]
theorem QP {l:List Int} {i:Nat} (hi:i<l.length):nv (l.take (i+1))=nv (l.take i)+pw i*l.getD i 0:=by
 rw [X4,vw,J0,J4 hi];simp [nv,Kj,Qn (Nat.le_of_lt hi)]
theorem Oo (l:List Int) (k:Nat) (h:k<=l.length):nv l=nv (l.take k)+pw k*nv (l.drop k):=by
 have:=vw (l.take k) (l.drop k)
 rwa [Xb,Kj,Qn h]at this
theorem RA {k i:Nat} (z:Int):(dg k z).drop i=dg (k-i) (z/pw i):=by
 induction k generalizing z i with
 |zero=>simp [dg]
 |succ k ih=>
  cases i with
  |zero=>simp [fh]
  |succ i=>
   simp only [dg,List.drop_succ_cons];rw [ih,l9];congr 1;omega
theorem Il {k i:Nat} (z:Int) (h:i<=k):(dg k z).take i=dg i z:=by
 induction k generalizing z i with
 |zero=>
  have:i=0:=by omega
  subst this;rfl
 |succ k ih=>
  cases i with
  |zero=>rfl
  |succ i=>
   simp only [dg,Qu];rw [ih _ (by omega)]
theorem CE (k:Nat):dg k 0=List.replicate k 0:=by
 induction k with
 |zero=>rfl
 |succ k ih=>simp [dg,ih,Qy]
theorem G8 (a b:Nat) (z:Int):dg (a+b) z=dg a z++dg b (z/pw a):=by
 have h1:=Il (k:=a+b) z (Nat.le_add_right a b);have h2:=RA (k:=a+b) (i:=a) z;rw [show a+b-a=b by omega]at h2;rw [<-h1,<-h2,Xb]
theorem cG {a r:List Int} {i:Nat} {x v:Int} (h:a.length=i):(a++x::r).set i v=a++v::r:=by
 subst h;simp
theorem kO {n:Nat} (h:0<n):List.replicate n (0:Int)=0::List.replicate (n-1) 0:=by
 obtain⟨m,rfl⟩: ∃m,n=m+1:=⟨n-1,by omega⟩;simp [Qy]
theorem fv (l:List Int) (i:Nat):nv (l.take (i+1))=nv (l.take i)+pw i*l.getD i 0:=by
 by_cases hi:i<l.length
 . exact QP hi
 . rw [Jz (by omega),Jz (by omega),J0,J7 (by omega)];simp
theorem cm {l:List Int} (h:cO l) (i:Nat):0<=nv (l.take i)/\nv (l.take i)<pw i:=by
 have h1:=fV (mN h i);have h2:=gT (a:=(l.take i).length) (b:=i) (by rw [Kj];omega);omega
theorem sJ {z:Int} {k:Nat} {m:Int} (h0:0<=z) (h1:z<m*pw k):0<=z/pw k/\z/pw k<m:=by
 have hp:=aE k;exact⟨Kb h0 (by omega),(Kl hp).2 h1⟩
theorem uj {out:List Int} {i n:Nat} {z t v:Int} (h:out=dg i z++List.replicate (n-i) 0) (hi:i<n) (hv:v=(z/pw i+t)%4294967296):out.set i v=dg (i+1) (z+pw i*t)++List.replicate (n-(i+1)) 0:=by
 rw [h,kO (by omega),cG (mL i z),uL,hv,Jq,show n-(i+1)=n-i-1 by omega];rfl
theorem gR (n i:Nat):(List.replicate n (0:Int)).getD i 0=0:=by
 simp only [J0,Xh];split<;>rfl
def lmF :Nat->Nat->List Int
 |0,_=>[]
 |f+1,n=>match n with
  |0=>[]
  |m+1=>(((m+1)%4294967296:Nat):Int)::lmF f ((m+1)/4294967296)
def lm (n:Nat):List Int:=lmF n n
theorem E8 : ∀{f g n:Nat},n<=f->n<=g->lmF f n=lmF g n
 |0,0,_,_,_=>rfl
 |0,g+1,n,h,_=>by
  have:n=0:=by omega
  subst this;rfl
 |f+1,0,n,_,h=>by
  have:n=0:=by omega
  subst this;rfl
 |f+1,g+1,n,h1,h2=>by
  cases n with
  |zero=>rfl
  |succ m=>
   simp only [lmF];rw [E8 (f:=f) (g:=g) (by omega) (by omega)]
theorem ur :lm 0=[]:=rfl
theorem oM {n:Nat} (h:0<n):lm n=((n%4294967296:Nat):Int)::lm (n/4294967296):=by
 cases n with
 |zero=>omega
 |succ m=>
  simp only [lm,lmF];rw [E8 (g:=(m+1)/4294967296) (by omega) (by omega)]
theorem Tf (n:Nat):nv (lm n)=(n:Int):=by
 induction n using Nat.strongRecOn with
 |ind n ih=>
  rcases Jw n with rfl|h
  . rfl
  . rw [oM h,nv,ih _ (by omega)];omega
theorem lm_allD (n:Nat):cO (lm n):=by
 induction n using Nat.strongRecOn with
 |ind n ih=>
  rcases Jw n with rfl|h
  . exact kP
  . rw [oM h];exact eP.2 ⟨by omega,ih _ (by omega)⟩
def canon (l:List Int):Prop:=cO l/\(l≠[]->l.getD (l.length-1) 0≠0)
theorem Ei :canon []:=⟨kP,fun h=>absurd rfl h⟩
theorem xn {x:Int} {r:List Int} (h:canon (x::r)):GD x/\canon r:=by
 obtain⟨h1,h2⟩:=h;obtain⟨h3,h4⟩:=eP.1 h1;refine⟨h3,h4,fun hr=> ?_⟩;have:=h2 (by simp);cases r with
 |nil=>exact absurd rfl hr
 |cons y r=>simpa using this
theorem OS (n:Nat):canon (lm n):=by
 refine⟨lm_allD n,?_⟩
 induction n using Nat.strongRecOn with
 |ind n ih=>
  rcases Jw n with rfl|h
  . intro h;exact absurd rfl h
  . intro _;rw [oM h];rcases Jw (n/4294967296)with h0|h0
    . rw [h0,ur];simp;omega
    . have:=ih (n/4294967296) (by omega) (by rw [oM h0];simp);rw [oM h0]at this⊢;simpa using this
theorem nq {l:List Int} (h:canon l) (hl:l≠[]):pw (l.length-1)<=nv l:=by
 induction l with
 |nil=>exact absurd rfl hl
 |cons x r ih=>
  obtain⟨h1,h2⟩:=xn h;cases r with
  |nil=>
   have:=h.2 (by simp);simp [nv,fh]at this⊢;omega
  |cons y s=>
   have:=ih h2 (by simp);simp only [Jc,Nat.add_sub_cancel,bD]at this⊢;rw [nv];omega
theorem Fj {l:List Int} (h:canon l) (hl:l≠[]):0<nv l:=by
 have:=nq h hl;have:=aE (l.length-1);omega
theorem lm_nv {l:List Int} (h:canon l):lm (nv l).toNat=l:=by
 induction l with
 |nil=>rfl
 |cons x r ih=>
  obtain⟨h1,h2⟩:=xn h;have hp:=Fj h (by simp);have hb:=fV h2.1;rw [oM (by omega)];simp only [nv]at hp⊢;have e1:(x+4294967296*nv r).toNat/4294967296=(nv r).toNat:=by omega
  have e2:(((x+4294967296*nv r).toNat%4294967296:Nat):Int)=x:=by omega
  rw [e1,e2,ih h2]
def tl :List Int->Nat
 |[]=>0
 |x::r=>match tl r with
  |0=>if x=0 then 0 else 1
  |n+1=>n+2
theorem cX (l:List Int):tl l<=l.length:=by
 induction l with
 |nil=>simp [tl]
 |cons x r ih=>
  simp only [tl,Jc];split
  . split<;>omega
  . omega
theorem wQ {l:List Int}:tl l=0↔ ∀x∈l,x=0:=by
 induction l with
 |nil=>simp [tl]
 |cons x r ih=>
  simp only [tl,List.forall_mem_cons];split
  . rename_i h;rw [ih]at h;split
    . rename_i e;simp only [true_iff];exact⟨e,h⟩
    . rename_i e;simp [e]
  . rename_i n h;constructor
    . intro h;omega
    . intro h';have:=ih.2 h'.2;omega
theorem Af {l:List Int} (h:cO l):canon (l.take (tl l)):=by
 refine⟨mN h _,?_⟩
 induction l with
 |nil=>simp
 |cons x r ih=>
  obtain⟨h1,h2⟩:=eP.1 h;simp only [tl];split
  . split
    . simp
    . simp_all
  . rename_i n hn;have:=ih h2;rw [hn]at this;intro _;have hlen:n+1<=r.length:=by have:=cX r;omega
    cases r with
    |nil=>simp at hlen
    |cons y s=>
     have:=this (by simp);simpa [Kj,Qn hlen,Qn (Nat.le_of_succ_le_succ hlen)]using this
theorem Ik {l:List Int} (h: ∀x∈l,x=0):nv l=0:=by
 induction l with
 |nil=>rfl
 |cons x r ih=>
  simp only [List.forall_mem_cons]at h;simp [nv,h.1,ih h.2]
theorem xH (l:List Int):nv (l.take (tl l))=nv l:=by
 induction l with
 |nil=>rfl
 |cons x r ih=>
  simp only [tl];split
  . rename_i h;have h0:=Ik (wQ.1 h);split
    . simp_all [nv]
    . simp [nv,h0]
  . rename_i n h;rw [h]at ih;simp only [Qu,nv]at ih⊢;rw [ih]
theorem qQ {l:List Int} {n:Nat} (h1:tl l<=n) (hn:n<=l.length):(0<n/\l.getD (n-1) 0=0)↔tl l<n:=by
 induction l generalizing n with
 |nil=>simp at hn;subst hn;simp [tl]
 |cons x r ih=>
  cases n with
  |zero=>simp
  |succ n=>
   simp only [Nat.add_sub_cancel,Jc]at hn⊢;cases n with
   |zero=>
    have h0:tl (x::r)<=1:=h1;simp only [tl]at h0⊢;split
    . split<;>simp_all
    . rename_i m h;rw [h]at h0;simp at h0
   |succ n=>
    have:=ih (n:=n+1) (by
     simp only [tl]at h1;split at h1<;>rename_i h<;>omega) (by omega)
    simp only [Zb];simp only [Nat.add_sub_cancel,Nat.zero_lt_succ,true_and]at this⊢;rw [this];simp only [tl];split<;>rename_i h
    . split<;>omega
    . omega
theorem WU (g t x:Int):g*(t*4294967296+x)=(g*t)*4294967296+g*x:=by rw [Kg,Jk]
theorem VW {top next num u w vl ul g rest U V:Int} (hw:0<w) (hV:V=(top*4294967296+next)*w+vl) (hU:U=(num*4294967296+u)*w+ul) (hvl:0<=vl) (hul:ul<w) (hV0:0<V) (hU0:0<=U)
 (h0:g*top+rest=num) (hq:U/V<4294967296) (hge:U/V<=g) (hc:4294967296<=g\/rest*4294967296+u<g*next):U/V<=g-1:=by
 rcases Qe (U/V) g with h|h
 . omega
 exfalso;have e:U/V=g:=by omega
 rcases hc with hc|hc
 . omega
 have h1:U/V*V<=U:=Int.ediv_mul_le U (by omega);have hg:0<=g:=by rw [<-e];exact Kb hU0 (by omega)
 rw [e,hV,hU,Kg,<-Int.mul_assoc]at h1;have h2:0<=g*vl:=Ja hg hvl;have h3:g*(top*4294967296+next)*w<(num*4294967296+u+1)*w:=by
  rw [Qo (num*4294967296+u),K8];omega
 have h4:=Int.lt_of_mul_lt_mul_right h3 (by omega);rw [WU]at h4;omega
theorem Vx {top next num u w vl ul g rest U V:Int} (hw:0<w) (hV:V=(top*4294967296+next)*w+vl) (hU:U=(num*4294967296+u)*w+ul) (hvl:vl<w) (hvl0:0<=vl) (hul:0<=ul) (ht:1<=top) (hn:0<=next)
 (h0:g*top+rest=num) (hg0:0<=g) (hg:g<4294967296) (hc:g*next<=rest*4294967296+u):(g-1)*V<=U:=by
 have h1:g*(top*4294967296+next)<=num*4294967296+u:=by rw [WU];omega
 have h2:g*(top*4294967296+next)*w<=(num*4294967296+u)*w:=Jh h1 (by omega);have h3:4294967296*w<=V:=by
  rw [hV];have:4294967296*w<=(top*4294967296+next)*w:=Jh (by omega) (by omega);omega
 have h4:g*vl<=g*w:=Jt (by omega) hg0;have h5:g*w<=4294967296*w:=Jh (by omega) (by omega);have h6:g*V=g*(top*4294967296+next)*w+g*vl:=by rw [hV,Kg,<-Int.mul_assoc]
 rw [Int.sub_mul,K8,h6,hU];omega
theorem QH {top next num u w vl ul U V:Int} (hw:0<w) (hV:V=(top*4294967296+next)*w+vl) (hU:U=(num*4294967296+u)*w+ul) (hvl:0<=vl) (hul:ul<w) (ht:1<=top) (hn:0<=next) (hu:0<=u/\u<4294967296) (hU0:0<=U) (hV0:0<V):U/V<=num/top:=by
 have h1:U/V*V<=U:=Int.ediv_mul_le U (by omega);have hq0:0<=U/V:=Kb hU0 (by omega);generalize U/V=q at*
 rw [Qp (by omega)];have h2:0<=q*vl:=Ja hq0 hvl;have h3:0<=q*next:=Ja hq0 hn;rw [hV,hU,Kg,<-Int.mul_assoc]at h1;have h4:q*(top*4294967296+next)*w<(num*4294967296+u+1)*w:=by
  rw [Qo (num*4294967296+u),K8];omega
 have h5:=Int.lt_of_mul_lt_mul_right h4 (by omega);rw [WU]at h5;omega
end Go.Proofs.Big
namespace Go.Sx
open Go Go.RowKit Go.Proofs.Big
variable [bW]
abbrev cD :wN (List Int):=OE (aF .u32) UW
def zv (b:Bool) (l:List Int):Int:=if b then-nv l else nv l
def dz (z:Int):List Int:=lm z.natAbs
theorem bI (z:Int):canon (dz z):=OS _
theorem Ox (z:Int):zv (decide (z<0)) (dz z)=z:=by
 simp only [zv,dz,Tf,decide_eq_true_eq];split<;>omega
theorem TE {b:Bool} {l:List Int} (h:canon l) (hb:b=true->l≠[]):dz (zv b l)=l/\decide (zv b l<0)=b:=by
 have h0:=fV h.1;have h1:=lm_nv h;cases b
 . simp only [zv,dz];refine⟨?_,by simp;omega⟩;simpa [show(nv l).natAbs=(nv l).toNat by omega]using h1
 . have:=Fj h (hb rfl);simp only [zv,dz];refine⟨?_,by simp;omega⟩;simpa [show(-nv l).natAbs=(nv l).toNat by omega]using h1
inductive EK (x y : SV) : Prop
 | mk (h : cD.ak [y] /\ ∃ b L, rB x = some b /\ cD.dec [y] = some L /\ canon L /\ (b = true -> L ≠ []))
theorem EK.get {x y:SV} (h:EK x y):cD.ak [y]/\ ∃b L,rB x=some b/\cD.dec [y]=some L/\canon L/\(b=true->L≠[]):=by cases h;assumption
def Ha (x y:SV):Option Int:=oB (rB x) fun b=>oB (cD.dec [y]) fun L=>some (zv b L)
theorem Cu {x y:SV} {z:Int} (h:Ha x y=some z): ∃b L,rB x=some b/\cD.dec [y]=some L/\z=zv b L:=by
 obtain⟨b,h1,h⟩:=gQ h;obtain⟨L,h2,h⟩:=gQ h;cases h;exact⟨b,L,h1,h2,rfl⟩
theorem BM {x y:SV} {z:Int} (h:Ha x y=some z) (hg:EK x y): ∃b L,rB x=some b/\cD.dec [y]=some L/\z=zv b L/\L=dz z/\b=decide (z<0):=by
 obtain⟨b,L,h1,h2,rfl⟩:=Cu h;obtain⟨_,b',L',g1,g2,g3,g4⟩:=hg.get;rw [h1]at g1;rw [h2]at g2;cases g1;cases g2;obtain⟨e1,e2⟩:=TE g3 g4;exact⟨_,_,h1,h2,rfl,e1.symm,e2.symm⟩
def aj :wN Int where
 n:=2
 enc z:=[.bool (decide (z<0)),Av (aF .u32) (dz z)]
 dec l:=match l with|[x,y]=>Ha x y|_=>none
 qW:=0
 ak l:=match l with|[x,y]=>EK x y|_=>True
 ok l a h hg:=by
  split at h
  case h_2=>cases h
  obtain⟨b,L,h1,h2,h3,h4,h5⟩:=BM h hg;have:=cD.ok _ _ h2 hg.get.1;subst h4;rw [<-h5];exact⟨(IC h1).1,this.1,trivial⟩
 self z:=by
  have:cD.dec [Av (aF .u32) (dz z)]=some (dz z):=cD.self (dz z);simp only [Ha,rB,oB,this,Ox]
 kW z:= .mk ⟨cD.kW (dz z),decide (z<0),dz z,rfl,cD.self (dz z),bI z,fun h=>by
  simp only [decide_eq_true_eq]at h;simp only [dz,oM (show 0<z.natAbs by omega)];simp⟩
 len _:=rfl
 Aa c x y a b h k:=by
  split at h
  case h_2=>cases h
  split at k
  case h_2=>cases k
  obtain⟨b1,L1,h1,h2,rfl⟩:=Cu h;obtain⟨b2,L2,k1,k2,rfl⟩:=Cu k;have e1:=WT (c:=c) h1 k1;have e2:=cD.Aa c _ _ _ _ h2 k2;simp only [af]at e2⊢;simp only [Ha,e1,e2,oB];cases c<;>rfl
@[simp] theorem codZ_n :aj.n=2:=rfl
@[simp] theorem codZ_dft :aj.qW=0:=rfl
theorem uh (z:Int):aj.enc z=[.bool (decide (z<0)),Av (aF .u32) (dz z)]:=rfl
theorem leD {y:SV} {L:List Int} (h:cD.dec [y]=some L) (hg:cD.ak [y]):Dt y (Av (aF .u32) L):=by
 simp only [cD,OE]at h hg;split at h
 . rename_i e;simp only [Qw,and_true]at e;subst e;split at h
   case h_2=>cases h
   rename_i he;cases h;refine aL.2 ⟨he,(jH _ _).symm,fun i hi=> ?_⟩;obtain⟨b,hb⟩:=Qi.1 (hg i hi).1;simp only [um hi,hb];have hb':=hb;simp only [aF]at hb';split at hb'
   case h_2=>cases hb'
   rename_i q x e;rw [e,Fk hb'];simp only [aF,K5];exact⟨rfl,trivial⟩
 . rename_i e;simp only [Qw,and_true]at e;subst e;cases h;exact rfl
 . cases h
theorem QO {x:SV} {b:Bool} (h:rB x=some b):pg x (.bool b):=by
 unfold rB at h;split at h<;>cases h<;>rfl
theorem Ix : ∀l a,aj.dec l=some a->aj.ak l->BE l (aj.enc a):=by
 intro l a h hg;simp only [aj]at h hg⊢;split at h
 case h_2=>cases h
 obtain⟨b,L,h1,h2,h3,h4,h5⟩:=BM h hg;subst h4;rw [<-h5];exact⟨BK (QO h1),leD h2 hg.get.1,trivial⟩
theorem Wa : ∀l a,aj.dec l=some a->aj.ak l->oP l (aj.enc a):=fun l a h hg=>pD (Ix l a h hg)
abbrev fm :wN (List Int):=OE aj Wa
theorem Wy : ∀l a,fm.dec l=some a->fm.ak l->oP l (fm.enc a):=by
 intro l a h hg;simp only [fm,OE]at h hg⊢;split at h
 . split at h
   case h_2=>cases h
   rename_i he;cases h;refine⟨aL.2 ⟨he,(jH _ _).symm,fun i hi=> ?_⟩,trivial⟩;obtain⟨b,hb⟩:=Qi.1 (hg i hi).1;simp only [um hi,hb];exact Ix _ _ hb (hg i hi).2
 . cases h;exact⟨rfl,trivial⟩
 . cases h
@[simp] theorem decZ_self (z:Int):Ha (.bool (decide (z<0))) (.aI 1 (dz z).length fun i=>[.int .u32 ((dz z).getD i 0)])=some z:=aj.self z
@[simp] theorem goodZ_self (z:Int):EK (.bool (decide (z<0))) (.aI 1 (dz z).length fun i=>[.int .u32 ((dz z).getD i 0)]):=aj.kW z
@[simp] theorem zv_self (z:Int):zv (decide (z<0)) (dz z)=z:=Ox z
theorem gz :dz 0=[]:=by simp [dz,ur]
theorem U2 (b:Bool):zv b []=0:=by cases b<;>simp [zv,nv]
@[simp] theorem KC :Ha .ff .aq=some 0:=by
 have:cD.dec [.aq]=some []:=rfl;simp [Ha,rB,oB,this,U2]
@[simp] theorem JD :EK .ff .aq:= .mk ⟨trivial,false,[],rfl,rfl,Ei,by simp⟩
def zz (z:Int):Int:=zv (decide (z<0)) (ah (aF .u32) (dz z).length fun i=>(aF .u32).enc ((dz z).getD i 0))
def VB (z:Int):Int:=zv (decide (z<0)) (ah (aF .u32) (dz z).length fun i=>(aF .u32).enc ((dz z).getD (0+i) 0))
@[simp] theorem zz_eq (z:Int):zz z=z:=by simp [zz,-List.getD_eq_getElem?_getD]
@[simp] theorem zz0_eq (z:Int):VB z=z:=by simp [VB,-List.getD_eq_getElem?_getD]
@[simp] theorem V0 (z:Int):aj.ak [.bool (decide (z<0)), .aI 1 (dz z).length fun i=>[.int .u32 ((dz z).getD i 0)]]:=aj.kW z
@[simp] theorem decC_self (z:Int):aj.dec [.bool (decide (z<0)), .aI 1 (dz z).length fun i=>[.int .u32 ((dz z).getD i 0)]]=some z:=aj.self z
@[simp] theorem goodC_null :aj.ak [.ff, .aq]:=JD
@[simp] theorem QN :aj.dec [.ff, .aq]=some 0:=KC
attribute [irreducible] zz VB
def zc (z:Int):List SV:=[.bool (decide (z<0)), .aI (0+1) (dz z).length fun i=>(aF .u32).enc ((dz z).getD i 0)]
theorem CC (z:Int):zc z=aj.enc z:=rfl
@[simp] theorem Ia (z:Int):aj.dec (zc z)=some z:=aj.self z
@[simp] theorem good_zc (z:Int):aj.ak (zc z):=aj.kW z
attribute [irreducible] zc
end Go.Sx
namespace Go.Proofs.Big
open Go Go.Sx Go.Proofs
variable [bW]
attribute [local irreducible] lm nv tl dg
abbrev iS (n:Int):SV:= .int .i64 n
theorem hm :Tryz.prog.follows .mixedOrders=true:=by kernel_rfl
abbrev fQ (T:List (Nat×bB)) (fn:Func) (A:List kM) (args:List SV) (r:SV):Prop:=H9 Tryz.prog (WQ T) fn (mB fn) A args r
def sm {α:Type} (x:α):Prop:=x=x
@[simp] theorem sm_iff {α:Type} (x:α):sm x↔True:=⟨fun _=>trivial,fun _=>rfl⟩
def W (n:Int):Int:=IntKind.i64.wrap n
def U (n:Int):Int:=IntKind.u64.wrap n
def V (n:Int):Int:=IntKind.u32.wrap n
attribute [irreducible] W U V
abbrev Rx :Arg Int:=argA aj
abbrev zS (z:Int):SV:=Rx.enc z
abbrev GF :Arg (List Int):=zN (aF .u32)
abbrev lS (l:List Int):SV:=GF.enc l
def sZ :=iR.one Rx
def sBL :=iR.cons VI (iR.one GF)
def sI :=iR.one (DN .i64)
def fit (z:Int):Prop:=(dz z).length<=1000000
def br (l:List Int):Prop:=cO l/\l.length<=10000000
attribute [irreducible] fit br
def c349 :bB:=fl sZ.dec (fun z=>fit z) (fun z=> .bp [.bool (decide (z<0)),lS (dz z)])
def WM :List (Nat×bB):=[(349,c349)]
def Z0 (z:Int):List kM:=[⟨.unit, .int .i64 (.tm 4),fun _ (n:Int)=>n=((dz z).length:Int),fun _ n=>n.toNat⟩]
def Sh (z:Int):Prop:=fQ [] Tryz.f349 (Z0 z) [zS z] (.bp [.bool (decide (z<0)),lS (dz z)])
def c356 :bB:=fl sBL.dec (fun a=>br a.2) (fun a=>zS (zv a.1 a.2))
def Uv :List (Nat×bB):=(356,c356)::WM
def YN (l:List Int):List kM:=[⟨.unit, .int .i64 (.tm 5),fun _ (n:Int)=>(tl l:Int)<=n/\n<=(l.length:Int),fun _ n=>n.toNat⟩]
def Tp (b:Bool) (l:List Int):Prop:=fQ WM Tryz.f356 (YN l) [.bool b,lS l] (zS (zv b l))
theorem PZ (z:Int):(
 let f:=fun(x:Int)=>(dz x).length
 let c:=fun(x:Int)=>(↑(f x):Int)
 let h:=ab 26 True
 let d:=fun(x:Int)=>decide (x<0)
 let t:=fun(x:Int) (y:Nat)=>(aF IntKind.u32).enc ((dz x).getD y 0)
 let j:=fun(x:Int)=>List.map ar.shape [ar.s (SV.bool (d x)),ar.s (SV.aI 1 (f x) fun i=>t x i)]
 let k:=fun(x:Int)=>j x=j x/\(sm (d x)/\(sm (f x)/\ ∀(i:Nat),i<f x->sm ((dz x).getD i 0)/\True)/\True)/\True
 let g:=fun(x:Int)=>decide (x>0)
 let e:=fun(x:Int)=>W (x-1)
 let o:=fun(x y:Int)=>(dz x).getD (e y).toNat 0==0
 let p:=fun(x y:Int)=>(0:Int)<=(0:Int)/\(0:Int)<=x/\x<=c y
 let q:=fun(x y:Int)=>((x-0).toNat=f y/\ ∀(i:Nat),i<(x-0).toNat->(dz y).getD (0+i) 0=(dz y).getD i 0/\True)/\True
 let r:=fun(x y:Int)=>(d x=true->p y x/\ru true/\ab 2 ((g y=d x/\q y x)/\True))/\(d x=false->p y x/\ru true/\ab 2 ((d x=false/\q y x)
  /\True))
 ab 2 ((c z=c z/\ab 4 (c z=c z/\h)/\k z)/\ ∀(n:Int),n=c z->(g n=true->(0<=e n/\e n<c z)/\True/\(o z n=true->True/\e n=c z/\(e n).toNat
  <n.toNat/\ab 4 (sm (e n)/\h)/\k z)/\(o z n=false->r z n))/\(g n=false->True/\r z n)))=Sh z:=by kernel_rfl
theorem LQ (b:Bool) (l:List Int):(
 let e:=fun(x:List Int)=>(↑(tl x):Int)
 let c:=fun(x:List Int)=>(↑x.length:Int)
 let f:=fun(x:List Int)=>x.length=x.length/\ ∀(i:Nat),i<x.length->sm (x.getD i 0)/\True
 let g:=ab 23 True
 let h:=List.map ar.shape ([ar.s SV.ff]++([ar.s SV.aq]++[]))
 let j:=h=h/\ab 2 True/\True
 let k:=fun(x:Int)=>decide (x>0)
 let d:=fun(x:Int)=>W (x-1)
 let o:=fun(x:List Int) (y:Int)=>x.getD (d y).toNat 0==0
 let p:=fun(x:Int)=>x==0
 let q:=fun(x:Int) (y:Bool) (u:List Int)=>(p x=true->ab 2 ((decide (zv y u<0)=false/\(dz (zv y u)).length=0/\True)/\True))/\(p x=false
  ->(x=x/\0<=x/\x<=c u)/\ab 2 ((y=decide (zv y u<0)/\(x.toNat=(dz (zv y u)).length/\ ∀(i:Nat),i<x.toNat->u.getD i 0=(dz (zv y u)).getD i 0
  /\True)/\True)/\True))
 ab 2 (((e l<=c l/\c l<=c l)/\(b=b/\f l/\ab 3 (c l=c l/\g))/\j)/\ ∀(n:Int),e l<=n/\n<=c l->(k n=true->(0<=d n/\d n<c l)/\True/\(o l
  n=true->True/\(e l<=d n/\d n<=c l)/\(d n).toNat<n.toNat/\(b=b/\f l/\ab 3 (sm (d n)/\g))/\j)/\(o l n=false->True/\q n b l))/\(k n=false
  ->ab 2 (q n b l))))=Tp b l:=by kernel_rfl
theorem W_def (n:Int):IntKind.i64.wrap n=W n:=by unfold W;rfl
theorem Su (n:Int):IntKind.u64.wrap n=U n:=by unfold U;rfl
theorem T7 (n:Int):IntKind.u32.wrap n=V n:=by unfold V;rfl
theorem aG {n:Int} (h1: -9223372036854775808<=n) (h2:n<9223372036854775808):W n=n:=by
 unfold W;simp [IntKind.wrap,IntKind.bits,IntKind.signed];omega
theorem nt (n:Int):U n=n%18446744073709551616:=by
 unfold U;simp [IntKind.wrap,IntKind.bits,IntKind.signed]
theorem iA (n:Int):V n=n%4294967296:=by
 unfold V;simp [IntKind.wrap,IntKind.bits,IntKind.signed]
theorem ct {n:Int} (h1:0<=n) (h2:n<18446744073709551616):U n=n:=by rw [nt];omega
theorem Aj {n:Int} (h1:0<=n) (h2:n<4294967296):V n=n:=by rw [iA];omega
theorem IG {z:Int} (h:0<(dz z).length):(dz z).getD ((dz z).length-1) 0≠0:=(bI z).2 (by intro e;rw [e]at h;simp at h)
theorem oz {z:Int}:(dz z).length=0↔z=0:=by
 constructor
 . intro h;have h0:dz z=[]:=Kr h;have:=Ox z;rw [h0]at this;rw [<-this];unfold zv nv;split<;>rfl
 . rintro rfl;simp [dz,ur]
theorem dm {z:Int} (h:fit z):(dz z).length<=1000000:=by unfold fit at h;exact h
theorem qv {l:List Int} (h:br l):cO l:=by unfold br at h;exact h.1
theorem nz {l:List Int} (h:br l):l.length<=10000000:=by unfold br at h;exact h.2
theorem ER {l:List Int} (h1:cO l) (h2:l.length<=10000000):br l:=by unfold br;exact⟨h1,h2⟩
theorem dzL {z:Int} (h:fit z):br (dz z):=ER (bI z).1 (by have:=dm h;omega)
theorem k349 :aH Tryz.prog WM:=av (T:=[]) trivial hm Tryz.func349 (by kernel_rfl) (by kernel_rfl) sZ.ok (by kernel_rfl) Z0 fun z hp=>by
 have h:Sh z:=by
  rw [<-PZ];simp only [aA];have h1:=dm hp;have h2:= @IG _ z;have h3:= @oz _ z;simp [-List.getD_eq_getElem?_getD];refine⟨fun hl=> ?_,fun e hz=> ?_⟩
  . rw [aG (by omega) (by omega),show((dz z).length-1:Int).toNat=(dz z).length-1 by omega];exact⟨by omega,fun e=>absurd e (h2 hl),fun _ hz=>by omega⟩
  . subst_vars;rw [e]at h3;simp at h3;omega
 exact h
theorem Rw {b:Bool} {l:List Int} (h:cO l) (h0:0<tl l):dz (zv b l)=l.take (tl l)/\decide (zv b l<0)=b:=by
 have hc:=Af h;have hne:l.take (tl l)≠[]:=by
  intro e;have h1:=congrArg List.length e;have h2:=cX l;rw [Kj,Kf]at h1;omega
 have e:zv b l=zv b (l.take (tl l)):=by simp only [zv,xH]
 rw [e];exact TE hc fun _=>hne
theorem zv_null {b:Bool} {l:List Int} (h:tl l=0):zv b l=0:=by
 have:=Ik (wQ.1 h);unfold zv;rw [this];simp
theorem qX {l:List Int} {i n:Nat} (h:i<n):(l.take n).getD i 0=l.getD i 0:=by
 simp only [J0,Q6,if_pos h]
theorem k356 :aH Tryz.prog Uv:=av k349 hm Tryz.func356 (by kernel_rfl) (by kernel_rfl) sBL.ok (by kernel_rfl) (fun a=>YN a.2) fun a hp=>by
 have h:Tp a.1 a.2:=by
  rw [<-LQ];simp only [aA];obtain⟨b,l⟩:=a;dsimp only at hp;have h1:=nz hp;have h0:=qv hp;have ht:=cX l;have fin: ∀n:Int,(tl l:Int)=n->(n=0->(decide (zv b l<0)=false/\(dz (zv b l)).length=0/\True)/\True)/\(¬n=0->(b=decide (zv b l<0))/\n.toNat=(dz (zv b l)).length/\ ∀i:Nat,i<n.toNat->l.getD i 0=(dz (zv b l)).getD i 0):=by
   intro n hn;refine⟨fun e=> ?_,fun e=> ?_⟩
   . rw [zv_null (by omega)];simp [gz]
   . obtain⟨e1,e2⟩:=Rw (b:=b) h0 (by omega);rw [e1,e2];refine⟨rfl,by rw [Kj];omega,fun i hi=>(qX (by omega)).symm⟩
  simp [-List.getD_eq_getElem?_getD]at fin⊢;refine⟨ht,fun n hn1 hn2=>⟨fun hn=> ?_,fun hn=> ?_⟩⟩
  . rw [aG (by omega) (by omega)];have hs:=qQ (l:=l) (n:=n.toNat) (by omega) (by omega);rw [show n.toNat-1=(n-1).toNat by omega]at hs;refine⟨by omega,fun e=>⟨?_,by omega⟩,fun e=> ?_⟩
    . have:=hs.1 ⟨by omega,e⟩;omega
    . have hn3: ¬tl l<n.toNat:=fun hlt=>e (hs.2 hlt).2
      have e:n=(tl l:Int):=by omega
      subst e;simp only [Int.natCast_eq_zero,K7,Z5];exact⟨fun h=>absurd h (by omega),fun h=>⟨by omega,fin.2 h⟩⟩
  . have e:n=(tl l:Int):=by omega
    subst e;simp only [Int.natCast_eq_zero,K7,Z5];exact⟨fun h=>fin.1 h,fun h=>absurd h (by omega)⟩
 exact h
def sU :=iR.one (DN .u64)
def sL :=iR.one GF
def To :=iR.cons GF sL
def DK :=iR.cons Rx sZ
def Ta :=iR.cons VI (iR.cons GF (iR.cons VI sL))
abbrev i32 :wN Int:=aF .u32
def aW (z:Int):Int:=if z<0 then-1 else if z=0 then 0 else 1
def jW (n:Int):Prop:=0<=n/\n<18446744073709551616
def fN (n:Int):Prop:= -9223372036854775808<=n/\n<9223372036854775808
def nU (a b:List Int):Int:=aW (nv a-nv b)
def pO (l:List Int):Prop:=canon l/\l.length<=10000000
def cf (a b:List Int):List Int:=dg (max a.length b.length+1) (nv a+nv b)
def oh (a b:List Int):List Int:=dg a.length (nv a-nv b)
def zL (a b:List Int):Prop:=br a/\br b/\b.length<=a.length/\nv b<=nv a
def tw (a b:List Int) (i:Int):Prop:= -1<=i/\i<a.length/\a.length=b.length/\a.drop (i+1).toNat=b.drop (i+1).toNat
def dk (a b:List Int) (i c:Int) (out:List Int):Prop:=0<=i/\i<=a.length/\b.length<=a.length/\out=dg i.toNat (nv (a.take i.toNat)+nv (b.take i.toNat))++List.replicate (a.length+1-i.toNat) 0/\c=(nv (a.take i.toNat)+nv (b.take i.toNat))/pw i.toNat
def gL (a b:List Int) (i c:Int) (out:List Int):Prop:=0<=i/\i<=a.length/\out=dg i.toNat (nv (a.take i.toNat)-nv (b.take i.toNat))++List.replicate (a.length-i.toNat) 0/\c= -((nv (a.take i.toNat)-nv (b.take i.toNat))/pw i.toNat)
attribute [irreducible] aW jW fN nU pO cf oh zL tw dk gL
def c306 :bB:=fl sZ.dec (fun a=>fit a) (fun a=>zS a)
def Uh :List (Nat×bB):=(306,c306)::Uv
def SZ (z:Int):Prop:=fQ Uv Tryz.f306 [] [zS z] (zS z)
def c380 :bB:=fl sZ.dec (fun a=>fit a) (fun a=>iS (dz a).length)
def WW :List (Nat×bB):=(380,c380)::Uh
def Tn (z:Int):Prop:=fQ Uh Tryz.f380 [] [zS z] (iS (dz z).length)
def c287 :bB:=fl sZ.dec (fun a=>fit a) (fun a=>iS (aW a))
def Ur :List (Nat×bB):=(287,c287)::WW
def T1 (z:Int):Prop:=fQ WW Tryz.f287 [] [zS z] (iS (aW z))
def c355 :bB:=fl sZ.dec (fun a=>fit a) (fun a=>zS (-a))
def Vc :List (Nat×bB):=(355,c355)::Ur
def TO (z:Int):Prop:=fQ Ur Tryz.f355 [] [zS z] (zS (-z))
def c363 :bB:=fl sZ.dec (fun a=>fit a) (fun a=>zS (a.natAbs:Int))
def VH :List (Nat×bB):=(363,c363)::Vc
def SB (z:Int):Prop:=fQ Vc Tryz.f363 [] [zS z] (zS (z.natAbs:Int))
def c391 :bB:=fl sU.dec (fun a=>jW a) (fun a=>zS a)
def U5 :List (Nat×bB):=(391,c391)::VH
def Th (n:Int):Prop:=fQ VH Tryz.f391 [] [.int .u64 n] (zS n)
def c291 :bB:=fl sI.dec (fun a=>fN a) (fun a=>zS a)
def Vb :List (Nat×bB):=(291,c291)::U5
def vc291 (n:Int):Prop:=fQ U5 Tryz.f291 [] [iS n] (zS n)
def c405 :bB:=fl sL.dec (fun a=>br a) (fun a=>lS (a.take (tl a)))
def U4 :List (Nat×bB):=(405,c405)::Vb
def YZ (l:List Int):List kM:=[⟨.unit, .int .i64 (.tm 3),fun _ (n:Int)=>(tl l:Int)<=n/\n<=(l.length:Int),fun _ (n:Int)=>n.toNat⟩]
def SO (l:List Int):Prop:=fQ Vb Tryz.f405 (YZ l) [lS l] (lS (l.take (tl l)))
def c359 :bB:=fl To.dec (fun a=>pO a.1/\pO a.2) (fun a=>iS (nU a.1 a.2))
def Uw :List (Nat×bB):=(359,c359)::U4
def YC (a:List Int) (b:List Int):List kM:=[⟨.unit, .int .i64 (.tm 5),fun _ (i:Int)=>tw a b i,fun _ (i:Int)=>(i+1).toNat⟩]
def Sl (a:List Int) (b:List Int):Prop:=fQ U4 Tryz.f359 (YC a b) [lS a,lS b] (iS (nU a b))
def c389 :bB:=fl To.dec (fun a=>br a.1/\br a.2) (fun a=>lS (cf a.1 a.2))
def Ut :List (Nat×bB):=(389,c389)::Uw
def ZG (a:List Int) (b:List Int):List kM:=[⟨.pair (.KD i32 (.tm 0)) (.KD i32 (.tm 1)), .list [.int .i64 (.tm 22), .int .u64 (.tm 6), .iQ i32 (max a.length b.length+1) 0 0],fun(x0:List Int×List Int) (x:Int×Int×List Int)=>dk x0.1 x0.2 x.1 x.2.1 x.2.2,fun(x0:List Int×List Int) (x:Int×Int×List Int)=>(x0.1.length-x.1).toNat⟩]
def TQ (a:List Int) (b:List Int):Prop:=fQ Uw Tryz.f389 (ZG a b) [lS a,lS b] (lS (cf a b))
def c390 :bB:=fl To.dec (fun a=>zL a.1 a.2) (fun a=>lS (oh a.1 a.2))
def VM :List (Nat×bB):=(390,c390)::Ut
def XZ (a:List Int) (b:List Int):List kM:=[⟨.unit, .list [.int .i64 (.tm 14), .int .u64 (.tm 6), .iQ i32 a.length 0 0],fun _ (x:Int×Int×List Int)=>gL a b x.1 x.2.1 x.2.2,fun _ (x:Int×Int×List Int)=>(a.length-x.1).toNat⟩]
def Sr (a:List Int) (b:List Int):Prop:=fQ Ut Tryz.f390 (XZ a b) [lS a,lS b] (lS (oh a b))
theorem Nq (z:Int):(
 let e:=fun(x:Int) (y:Nat)=>(aF IntKind.u32).enc ((dz x).getD y 0)
 let c:=fun(x:Int)=>(dz (zz x)).length
 let d:=fun(x:Int)=> ∀(j:Nat),j<c x->true=true
 let f:=fun(x:Int) (y:Nat)=>(aF IntKind.u32).enc ((dz (zz x)).getD (0+y) 0)
 ab 2 ((aj.ak [SV.bool (decide (z<0)),SV.aI 1 (dz z).length fun i=>e z i]/\fit (zz z))/\True/\d z/\(c z<=140737488355328/\c z*4<=140737488355328)
  /\True/\(0+c z<=c z/\d z)/\((True/\ ∀(i:Nat),i<c z->true=true/\True)/\br (ah (aF IntKind.u32) (c z) fun i=>f z i))/\ab 2 ((decide (VB
  (zz z)<0)=decide (z<0)/\((dz (VB (zz z))).length=(dz z).length/\ ∀(i:Nat),i<(dz (VB (zz z))).length->(dz (VB (zz z))).getD i 0=(dz z).getD i
  0/\True)/\True)/\True)))=SZ z:=by kernel_rfl
theorem N6 (z:Int):(
 let c:=fun(x:Int) (y:Nat)=>(aF IntKind.u32).enc ((dz x).getD y 0)
 ab 2 ((aj.ak [SV.bool (decide (z<0)),SV.aI 1 (dz z).length fun i=>c z i]/\fit (zz z))/\ab 3 (Eq (α:=Int) ↑(dz (zz z)).length ↑(dz z).length/\True)))=Tn z:=by kernel_rfl
theorem Ps (z:Int):(
 let d:=fun(x:Int) (y:Nat)=>(aF IntKind.u32).enc ((dz x).getD y 0)
 let c:=fun(x:Int)=> ↑(dz (zz x)).length==(0:Int)
 ab 2 ((aj.ak [SV.bool (decide (z<0)),SV.aI 1 (dz z).length fun i=>d z i]/\fit (zz z))/\ab 2 ((c z=true->ab 2 (0=aW z/\True))/\(c z=false
  ->True/\(decide (zz z<0)=true->ab 2 (-1=aW z/\True))/\(decide (zz z<0)=false->ab 2 (1=aW z/\True))))))=T1 z:=by kernel_rfl
theorem Mn (z:Int):(
 let g:=fun(x:Int) (y:Nat)=>(aF IntKind.u32).enc ((dz x).getD y 0)
 let c:=fun(x:Int)=>(dz (zz x)).length
 let e:=fun(x:Int)=> ∀(j:Nat),j<c x->true=true
 let h:=fun(x:Int) (y:Nat)=>(aF IntKind.u32).enc ((dz (zz x)).getD (0+y) 0)
 let f:=fun(x:Int)=>ah (aF IntKind.u32) (c x) fun i=>h x i
 let d:=fun(x:Int)=>zv (!decide (zz x<0)) (f x)
 ab 2 ((aj.ak [SV.bool (decide (z<0)),SV.aI 1 (dz z).length fun i=>g z i]/\fit (zz z))/\True/\e z/\(c z<=140737488355328/\c z*4<=140737488355328)
  /\True/\(0+c z<=c z/\e z)/\((True/\ ∀(i:Nat),i<c z->true=true/\True)/\br (f z))/\ab 2 ((decide (d z<0)=decide (-z<0)/\((dz (d z)).length
  =(dz (-z)).length/\ ∀(i:Nat),i<(dz (d z)).length->(dz (d z)).getD i 0=(dz (-z)).getD i 0/\True)/\True)/\True)))=TO z:=by kernel_rfl
theorem O2 (z:Int):(
 let h:=fun(x:Int) (y:Nat)=>(aF IntKind.u32).enc ((dz x).getD y 0)
 let c:=fun(x:Int)=>(dz (zz x)).length
 let f:=fun(x:Int)=> ∀(j:Nat),j<c x->true=true
 let k:=fun(x:Int) (y:Nat)=>(aF IntKind.u32).enc ((dz (zz x)).getD (0+y) 0)
 let d:=fun(x:Int)=>ah (aF IntKind.u32) (c x) fun i=>k x i
 let e:=fun(x:Int)=>(↑x.natAbs:Int)
 let g:=fun(x:Int)=>(dz (zv false (d x))).length
 ab 2 ((aj.ak [SV.bool (decide (z<0)),SV.aI 1 (dz z).length fun i=>h z i]/\fit (zz z))/\True/\f z/\(c z<=140737488355328/\c z*4<=140737488355328)
  /\True/\(0+c z<=c z/\f z)/\((True/\ ∀(i:Nat),i<c z->true=true/\True)/\br (d z))/\ab 2 ((decide (zv false (d z)<0)=decide (e z<0)/\(g
  z=(dz (e z)).length/\ ∀(i:Nat),i<g z->(dz (zv false (d z))).getD i 0=(dz (e z)).getD i 0/\True)/\True)/\True)))=SB z:=by kernel_rfl
theorem Oy (n:Int):(
 let c:=fun(x:Int)=>ah (aF IntKind.u32) 2 fun i=>af (decide (0+i=1)) [SV.int IntKind.u32 (V (x/4294967296))] (af (decide (0+i=0)) [SV.int
  IntKind.u32 (V x)] [SV.int IntKind.u32 0])
 let d:=fun(x:Int)=>(dz (zv false (c x))).length
 True/\(0:Int)<=(32:Int)/\True/\((2:Nat)<=(2:Nat)/\ ∀(i:Nat),i<(2:Nat)->true=true)/\((True/\ ∀(i:Nat),i<(2:Nat)->true=true/\True)
  /\br (c n))/\ab (2:Nat) ((decide (zv false (c n)<(0:Int))=decide (n<(0:Int))/\(d n=(dz n).length/\ ∀(i:Nat),i<d n->(dz (zv false (c n))).getD
  i (0:Int)=(dz n).getD i (0:Int)/\True)/\True)/\True))=Th n:=by kernel_rfl
theorem MV (n:Int):(
 let c:=fun(x:Int)=>decide (x<0)
 let g:=(0:Int)<=(32:Int)
 let h:=2<=2/\ ∀(i:Nat),i<2->true=true
 let j:=True/\ ∀(i:Nat),i<2->true=true/\True
 let k:=fun(x:Nat)=>decide (0+x=1)
 let d:=([]:List SV)
 let o:=fun(x:Nat)=>decide (0+x=0)
 let p:=SV.int IntKind.u32 0::d
 let e:=fun(x:Int)=>ah (aF IntKind.u32) 2 fun i=>af (k i) (SV.int IntKind.u32 (V (U (0-U x)/4294967296))::d) (af (o i) (SV.int IntKind.u32
  (V (U (0-U x)))::d) p)
 let q:=fun(x:Int)=>(dz (zv (c x) (e x))).length
 let f:=fun(x:Int)=>ah (aF IntKind.u32) 2 fun i=>af (k i) (SV.int IntKind.u32 (V (U x/4294967296))::d) (af (o i) (SV.int IntKind.u32 (V (U
  x))::d) p)
 let r:=fun(x:Int)=>(dz (zv (c x) (f x))).length
 ab 3 ((c n=true->True/\g/\True/\h/\(j/\br (e n))/\ab 2 ((decide (zv (c n) (e n)<0)=c n/\(q n=(dz n).length/\ ∀(i:Nat),i<q n->(dz (zv (c
  n) (e n))).getD i 0=(dz n).getD i 0/\True)/\True)/\True))/\(c n=false->g/\True/\h/\(j/\br (f n))/\ab 2 ((decide (zv (c n) (f n)<0)=c n/\(r
  n=(dz n).length/\ ∀(i:Nat),i<r n->(dz (zv (c n) (f n))).getD i 0=(dz n).getD i 0/\True)/\True)/\True))))=vc291 n:=by kernel_rfl
theorem Lt (l:List Int):(
 let e:=fun(x:List Int)=>(↑(tl x):Int)
 let c:=fun(x:List Int)=>(↑x.length:Int)
 let f:=fun(x:List Int)=>x.length=x.length/\ ∀(i:Nat),i<x.length->sm (x.getD i 0)/\True
 let g:=ab 17 True
 let h:=fun(x:Int)=>decide (x>0)
 let d:=fun(x:Int)=>W (x-1)
 let j:=fun(x:List Int) (y:Int)=>x.getD (d y).toNat 0==0
 let k:=fun(x:Int) (y:List Int)=>((0:Int)<=(0:Int)/\(0:Int)<=x/\x<=c y)/\ab (2:Nat) (((x-(0:Int)).toNat=(List.take (tl y) y).length
  /\ ∀(i:Nat),i<(x-(0:Int)).toNat->y.getD ((0:Nat)+i) (0:Int)=(List.take (tl y) y).getD i (0:Int)/\True)/\True)
 ab 2 (((e l<=c l/\c l<=c l)/\(f l/\ab 2 (c l=c l/\g))/\True)/\ ∀(n:Int),e l<=n/\n<=c l->(h n=true->(0<=d n/\d n<c l)/\True/\(j l n=
  true->True/\(e l<=d n/\d n<=c l)/\(d n).toNat<n.toNat/\(f l/\ab 2 (sm (d n)/\g))/\True)/\(j l n=false->k n l))/\(h n=false->True/\k n l)))=SO l:=by kernel_rfl
theorem MF (a:List Int) (b:List Int):(
 let c:=fun(x:List Int)=>(↑x.length:Int)
 let g:=fun(x y:List Int)=>c x !=c y
 let h:=fun(x y:List Int)=>ab 2 (-1=nU x y/\True)
 let j:=fun(x y:List Int)=>ab 2 (1=nU x y/\True)
 let e:=fun(x:List Int)=>x.length=x.length/\ ∀(i:Nat),i<x.length->sm (x.getD i 0)/\True
 let k:=ab 35 True
 let o:=fun(x:Int)=>decide (x>=0)
 let f:=fun(x:Int) (y:List Int)=>0<=x/\x<c y
 let d:=fun(x:List Int) (y:Int)=>x.getD y.toNat 0
 let p:=fun(x y:List Int) (u:Int)=>d x u !=d y u
 ab 2 ((g a b=true->True/\(decide (c a<c b)=true->h a b)/\(decide (c a<c b)=false->j a b))/\(g a b=false->True/\(tw a b (W (c a-1))/\(e
  a/\e b/\ab 3 (sm (W (c a-1))/\k))/\True)/\ ∀(n:Int),tw a b n->True/\(o n=true->f n a/\f n b/\ru true/\(p a b n=true->f n a/\f n b/\ru
  true/\(decide (d a n<d b n)=true->h a b)/\(decide (d a n<d b n)=false->j a b))/\(p a b n=false->True/\tw a b (W (n-1))/\(W (n-1)+1).toNat
  <(n+1).toNat/\(e a/\e b/\ab 3 (sm (W (n-1))/\k))/\True))/\(o n=false->ab 2 (0=nU a b/\True)))))=Sl a b:=by kernel_rfl
theorem MT (a:List Int) (b:List Int):(
 let j:=fun(x:List Int)=>x.length
 let e:=fun(x:List Int)=>(↑(j x):Int)
 let t:=fun(x:List Int)=>W (e x+1)
 let K:=fun(x:List Int)=>sm (t x)/\0<=t x/\t x<=9223372036854775807/\4*t x<=281474976710656
 let f:=i32
 let c7:=fun(x:List Int) (m:Nat)=>(aF IntKind.u32).enc (x.getD m 0)
 let d:=fun(x:List Int)=>ah f (j x) fun i=>c7 x i
 let c:=fun(x m:List Int)=>max (j x) (j m)+1
 let E:=fun(m x1:List Int)=>ah f (c m x1) fun x=>[SV.int IntKind.u32 0]
 let k:=fun(x:List Int)=>j x=j x/\ ∀(i:Nat),i<j x->sm (x.getD i 0)/\True
 let g:=fun(x:List Int)=>(t x).toNat
 let F:=fun(x:List Int)=>sm 0/\sm (g x)
 let L:=sm (0:Int)
 let M:=ab 35 True
 let N:=fun(x m:List Int)=>k x/\k m/\ab 3 (F x/\L/\ab 14 (e x=e x/\L/\M))
 let O:=([]:List (Option (Nat×Nat)))
 let o:=O=O
 let p:=1=f.n
 let h:=f.qW
 let P:=fun(x m:List Int) (x1:Nat)=>0=(E x m).getD x1 h/\True
 let u:=fun(x:Int) (m:List Int)=>decide (x<e m)=true
 let v:=fun(x:Int) (m:List Int)=>0<=x/\x<e m
 let w:=(0:Int)<=(32:Int)
 let y:=fun(x:Int) (m:List Int)=>0<=x/\x< ↑(g m)
 let q:=fun(x:Int)=>0+x.toNat
 let r:=fun(x:Int)=>W (x+1)
 let s:=fun(x:List Int) (m x1:Int)=>U (U (x.getD m.toNat 0)+x1)
 let G:=fun(x m:List Int) (x1 y1:Int)=>U (s x x1 y1+U (m.getD x1.toNat 0))/4294967296
 let z:=fun(x:Nat) (m:Int)=>decide (x=q m)
 let Q:=fun(x:List Int) (m:Int)=>f.enc (x.getD (q m) h)
 let A:=fun(x m:Int) (x1 y1 u1:List Int)=>fun i'=>af (z i' x) (cE (Q x1 x) 0 [SV.int IntKind.u32 (V (U (s y1 x m+U (u1.getD x.toNat 0))))]) (f.enc
  (x1.getD i' h))
 let R:=fun(x:List Int)=>(↑(d x).length:Int)
 let B:=fun(x:List Int) (m:Int)=>(R x-r m).toNat<(R x-m).toNat
 let T:=fun(x:List Int) (m:Int)=>ab 14 (e x=e x/\sm (r m)/\M)
 let c0:=fun(x m:List Int) (x1 y1:Int)=>k x/\k m/\ab 3 (F x/\sm (G x m x1 y1)/\T x x1)
 let c1:=fun(x:Nat) (m x1:Int) (y1 u1 v1:List Int)=>if z x m=true then V (U (s y1 m x1+U (u1.getD m.toNat 0)))else v1.getD x h
 let C:=fun(x:Int) (m:List Int)=>decide (x<e m)=false
 let H:=fun(x:List Int) (m x1:Int)=>s x m x1/4294967296
 let D:=fun(x m:Int) (x1 y1:List Int)=>fun i'=>af (z i' x) (cE (Q x1 x) 0 [SV.int IntKind.u32 (V (s y1 x m))]) (f.enc (x1.getD i' h))
 let c2:=fun(x m:List Int) (x1 y1:Int)=>k x/\k m/\ab 3 (F x/\sm (H x x1 y1)/\T x x1)
 let c3:=fun(x:Nat) (m x1:Int) (y1 u1:List Int)=>if z x m=true then V (s y1 m x1)else u1.getD x h
 let c4:=fun(x:List Int)=>0<=e x/\e x< ↑(g x)
 let J:=fun(x:List Int)=>0+(e x).toNat
 let c5:=fun(x m:List Int)=> ∀(i:Nat),i<c x m->true=true
 let c6:=fun(x:Nat) (m x1:List Int) (y1:Int)=>if decide (0+x=J m)=true then V y1 else x1.getD (0+x) h
 ab 2 ((decide (e a<e b)=true->True/\K b/\ab 3 ((dk (d b) (d a) 0 0 (E a b)/\N b a/\o/\((g b=c a b/\p/\ ∀(i:Nat),i<g b->P a b i)/\True)
  /\True)/\ ∀(n n_1:Int) (l:List Int),dk (d b) (d a) n n_1 l->True/\(u n b->True/\v n b/\ab 2 ((u n a->v n a/\True/\w/\y n b/\q n<c a b/\ab
  2 (dk (d b) (d a) (r n) (G b a n n_1) (ah f (c a b) (A n n_1 l b a))/\B b n/\c0 b a n n_1/\o/\((sm (c a b)/\p/\ ∀(i:Nat),i<c a b->c1 i n n_1 b
  a l=(ah f (c a b) (A n n_1 l b a)).getD i h/\True)/\True)/\True))/\(C n a->w/\y n b/\q n<c a b/\ab 2 (dk (d b) (d a) (r n) (H b n n_1) (ah f
  (c a b) (D n n_1 l b))/\B b n/\c2 b a n n_1/\o/\((sm (c a b)/\p/\ ∀(i:Nat),i<c a b->c3 i n n_1 b l=(ah f (c a b) (D n n_1 l b)).getD i h/\True)
  /\True)/\True))))/\(C n b->c4 b/\J b<c a b/\ab 2 ((0+g b<=c a b/\c5 a b)/\(g b=(cf a b).length/\ ∀(i:Nat),i<g b->c6 i b l n_1=(cf a b).getD
  i 0/\True)/\True))))/\(decide (e a<e b)=false->K a/\ab 3 ((dk (d a) (d b) 0 0 (E a b)/\N a b/\o/\((g a=c a b/\p/\ ∀(i:Nat),i<g a->P a
  b i)/\True)/\True)/\ ∀(n n_1:Int) (l:List Int),dk (d a) (d b) n n_1 l->True/\(u n a->True/\v n a/\ab 2 ((u n b->v n b/\True/\w/\y n a/\q n
  <c a b/\ab 2 (dk (d a) (d b) (r n) (G a b n n_1) (ah f (c a b) (A n n_1 l a b))/\B a n/\c0 a b n n_1/\o/\((sm (c a b)/\p/\ ∀(i:Nat),i<c a b->
  c1 i n n_1 a b l=(ah f (c a b) (A n n_1 l a b)).getD i h/\True)/\True)/\True))/\(C n b->w/\y n a/\q n<c a b/\ab 2 (dk (d a) (d b) (r n) (H a n
  n_1) (ah f (c a b) (D n n_1 l a))/\B a n/\c2 a b n n_1/\o/\((sm (c a b)/\p/\ ∀(i:Nat),i<c a b->c3 i n n_1 a l=(ah f (c a b) (D n n_1 l a)).getD
  i h/\True)/\True)/\True))))/\(C n a->c4 a/\J a<c a b/\ab 2 ((0+g a<=c a b/\c5 a b)/\(g a=(cf a b).length/\ ∀(i:Nat),i<g a->c6 i a l n_1
  =(cf a b).getD i 0/\True)/\True))))))=TQ a b:=by kernel_rfl
theorem Nz (a:List Int) (b:List Int):(
 let c:=fun(x:List Int)=>x.length
 let d:=fun(x:List Int)=>(↑(c x):Int)
 let f:=i32
 let t:=fun(m:List Int)=>ah f (c m) fun x=>[SV.int IntKind.u32 0]
 let h:=fun(x:List Int)=>c x=c x/\ ∀(i:Nat),i<c x->sm (x.getD i 0)/\True
 let g:=fun(x:List Int)=>(d x).toNat
 let q:=fun(x:List Int)=>sm 0/\sm (g x)
 let u:=sm (0:Int)
 let v:=ab 29 True
 let w:=([]:List (Option (Nat×Nat)))
 let r:=w=w
 let s:=1=f.n
 let e:=f.qW
 let y:=(0:Int)<=(63:Int)
 let z:=fun(x:Int) (m:List Int)=>0<=x/\x< ↑(g m)
 let k:=fun(x:Int)=>0+x.toNat
 let o:=fun(x:Int)=>W (x+1)
 let j:=fun(x:List Int) (m x1:Int)=>U (U (x.getD m.toNat 0)-x1)
 let A:=fun(x m:List Int) (x1 y1:Int)=>U (j x x1 y1-U (m.getD x1.toNat 0))/9223372036854775808
 let p:=fun(x:Nat) (m:Int)=>decide (x=k m)
 let B:=fun(x:List Int) (m:Int)=>f.enc (x.getD (k m) e)
 let C:=fun(x m x1:List Int) (y1 u1:Int)=>ah f (c x) fun i'=>af (p i' y1) (cE (B m y1) 0 [SV.int IntKind.u32 (V (U (j x y1 u1-U (x1.getD y1.toNat
  0))))]) (f.enc (m.getD i' e))
 let D:=fun(x:List Int) (m:Int)=>(d x-o m).toNat<(d x-m).toNat
 let E:=fun(x:List Int) (m:Int)=>ab 6 (d x=d x/\sm (o m)/\v)
 let F:=fun(x:List Int) (m x1:Int)=>j x m x1/9223372036854775808
 let G:=fun(x m:List Int) (x1 y1:Int)=>ah f (c x) fun i'=>af (p i' x1) (cE (B m x1) 0 [SV.int IntKind.u32 (V (j x x1 y1))]) (f.enc (m.getD i' e))
 True/\(d a=d a/\0<=d a/\d a<=9223372036854775807/\4*d a<=281474976710656)/\ab 3 ((gL a b 0 0 (t a)/\(h a/\h b/\ab 3 (q a/\u/\ab 6 (d a=
  d a/\u/\v)))/\r/\((g a=c a/\s/\ ∀(i:Nat),i<g a->0=(t a).getD i e/\True)/\True)/\True)/\ ∀(n n_1:Int) (l:List Int),gL a b n n_1 l->True
  /\(decide (n<d a)=true->True/\(0<=n/\n<d a)/\ab 2 ((decide (n<d b)=true->(0<=n/\n<d b)/\True/\y/\z n a/\k n<c a/\ab 2 (gL a b (o
  n) (A a b n n_1) (C a l b n n_1)/\D a n/\(h a/\h b/\ab 3 (q a/\sm (A a b n n_1)/\E a n))/\r/\((c a=c a/\s/\ ∀(i:Nat),i<c a->(if p i n=true then
  V (U (j a n n_1-U (b.getD n.toNat 0)))else l.getD i e)=(C a l b n n_1).getD i e/\True)/\True)/\True))/\(decide (n<d b)=false->y/\z n a/\k n<c a
  /\ab 2 (gL a b (o n) (F a n n_1) (G a l n n_1)/\D a n/\(h a/\h b/\ab 3 (q a/\sm (F a n n_1)/\E a n))/\r/\((c a=c a/\s/\ ∀(i:Nat),i<c a->(if
  p i n=true then V (j a n n_1)else l.getD i e)=(G a l n n_1).getD i e/\True)/\True)/\True))))/\(decide (n<d a)=false->True/\(0+g a<=c a/\ ∀(i:
  Nat),i<c a->true=true)/\(g a=(oh a b).length/\ ∀(i:Nat),i<g a->l.getD (0+i) e=(oh a b).getD i 0/\True)/\True)))=Sr a b:=by kernel_rfl
theorem B2 (z:Int):dz (-z)=dz z:=by simp [dz]
theorem GM {n:Int} (h:jW n):0<=n/\n<18446744073709551616:=by unfold jW at h;exact h
theorem Nt {n:Int} (h:fN n): -9223372036854775808<=n/\n<9223372036854775808:=by unfold fN at h;exact h
theorem Ph {l:List Int} (h1:canon l) (h2:l.length<=10000000):pO l:=by unfold pO;exact⟨h1,h2⟩
theorem OH {l:List Int} (h:pO l):canon l:=by unfold pO at h;exact h.1
theorem Gm {l:List Int} (h:pO l):l.length<=10000000:=by unfold pO at h;exact h.2
theorem dzC {z:Int} (h:fit z):pO (dz z):=Ph (bI z) (by have:=dm h;omega)
theorem Ds {n:Int} (h:jW n):br [V n,V (n/4294967296)]/\nv [V n,V (n/4294967296)]=n:=by
 have:=GM h;refine⟨ER (eP.2 ⟨?_,eP.2 ⟨?_,kP⟩⟩) (by simp),?_⟩
 . rw [iA];exact⟨by omega,by omega⟩
 . rw [iA];exact⟨by omega,by omega⟩
 . simp only [nv,iA];omega
@[simp] theorem row2 {x y z:Int}:ah (aF .u32) 2 (fun i=>af (decide (i=1)) [SV.int .u32 y] (af (decide (i=0)) [SV.int .u32 x] [SV.int .u32 z]))=[x,y]:=by
 refine kj rfl fun i hi=> ?_
 match i,hi with
 |0,_=>simp [aF,rI,af,dY]
 |1,_=>simp [aF,rI,af,dY]
theorem iB (z:Int):nv (dz z)=(z.natAbs:Int):=Tf _
@[simp] theorem zv_not (z:Int):zv (!decide (z<0)) (dz z)= -z:=by
 have:=iB z
 by_cases h:z<0<;>simp [zv,h,this]<;>omega
@[simp] theorem PH (z:Int):zv false (dz z)=(z.natAbs:Int):=by simp [zv,iB]
theorem w9 {a b:List Int} (ha:canon a) (hb:canon b) (h:a.length<b.length):nv a<nv b:=by
 have h1:=fV ha.1;have h2:=nq hb (by intro e;rw [e]at h;simp at h);have h3:=gT (a:=a.length) (b:=b.length-1) (by omega);omega
theorem Oa (l:List Int) (i:Nat) (h:i<l.length):nv l=nv (l.take i)+pw i*l.getD i 0+pw (i+1)*nv (l.drop (i+1)):=by
 rw [Oo l (i+1) (by omega),fv l i]
theorem JF {a b:List Int} (ha:cO a) (hb:cO b) {i:Nat} (hi:i<a.length) (hl:a.length=b.length) (hd:a.drop (i+1)=b.drop (i+1)) (h:a.getD i 0<b.getD i 0):nv a<nv b:=by
 rw [Oa a i hi,Oa b i (by omega),hd];have h1:=cm ha i;have h2:=cm hb i;have h3:pw i*(a.getD i 0+1)<=pw i*b.getD i 0:=Jt (by omega) (by have:=aE i;omega);rw [Kg,Ke]at h3;omega
theorem I8 {a b:List Int} (h:nv a<nv b):nU a b= -1:=by unfold nU aW;rw [if_pos (by omega)]
theorem Ih {a b:List Int} (h:nv b<nv a):nU a b=1:=by unfold nU aW;rw [if_neg (by omega),if_neg (by omega)]
theorem QJ {a b:List Int} (h:nv a=nv b):nU a b=0:=by unfold nU aW;rw [if_neg (by omega),if_pos (by omega)]
theorem Mi {a b:List Int} (h:b.length<=a.length):dk a b 0 0 (List.replicate (a.length+1) 0):=by
 unfold dk;simp [dg,nv,fh,h]
theorem P3 {a b:List Int} (ha:cO a) (hb:cO b) (i:Nat):0<=(nv (a.take i)+nv (b.take i))/pw i/\(nv (a.take i)+nv (b.take i))/pw i<2:=by
 have h1:=cm ha i;have h2:=cm hb i;exact sJ (by omega) (by omega)
theorem zg {a b:List Int} {i c:Int} {out:List Int} (h:dk a b i c out):out.length=a.length+1:=by
 unfold dk at h;obtain⟨h1,h2,h3,rfl,h5⟩:=h;simp;omega
theorem F5 {a b:List Int} {i c:Int} {out:List Int} (ha:cO a) (hb:cO b) (hl:a.length<=10000000) (h:dk a b i c out) (hi:i<a.length):
 0<=c/\c<2/\ ∀s,s=a.getD i.toNat 0+c+b.getD i.toNat 0->dk a b (W (i+1)) (s/4294967296) (out.set i.toNat (V s)):=by
 unfold dk at h⊢;obtain⟨h1,h2,h3,h4,h5⟩:=h;have hb:=P3 ha hb i.toNat;refine⟨by omega,by omega,fun s hs=> ?_⟩;rw [aG (by omega) (by omega),show(i+1).toNat=i.toNat+1 by omega];have e:nv (a.take (i.toNat+1))+nv (b.take (i.toNat+1))=nv (a.take i.toNat)+nv (b.take i.toNat)+pw i.toNat*(a.getD i.toNat 0+b.getD i.toNat 0):=by
  rw [fv,fv,Kg];omega
 have es:s=(nv (a.take i.toNat)+nv (b.take i.toNat))/pw i.toNat+(a.getD i.toNat 0+b.getD i.toNat 0):=by omega
 refine⟨by omega,by omega,h3,?_,?_⟩
 . rw [e];exact uj h4 (by omega) (by rw [iA,es])
 . rw [e,lH,es]
theorem Hp {a b:List Int} {i c:Int} {out:List Int} (ha:cO a) (hb:cO b) (h:dk a b i c out) (hi:(a.length:Int)<=i):out.set a.length (V c)=cf a b/\cf b a=cf a b:=by
 unfold dk at h;obtain⟨h1,h2,h3,h4,h5⟩:=h;have e:i=(a.length:Int):=by omega
 subst e;simp only [K7]at*
 have hb:=P3 ha hb a.length;have:=uj (t:=0) (v:=V c) h4 (by omega) (by rw [iA,h5];simp);rw [this];unfold cf;rw [Nat.max_eq_left h3,Nat.max_eq_right h3,Jz (J1 _),Jz h3];simp [Int.add_comm]
theorem zD (a b:List Int):(cf a b).length=max a.length b.length+1:=by unfold cf;simp
theorem Lk {a b:List Int} (ha:br a) (hb:br b) (hab:b.length<=a.length) {R:List Int} (hR:cf a b=R) {N:Nat} (hN:N=a.length+1):
 (0<=W (↑a.length+1)/\W (↑a.length+1)<=9223372036854775807/\4*W (↑a.length+1)<=281474976710656)/\
  (dk a b 0 0 (List.replicate N 0)/\
   (W (↑a.length+1)).toNat=N/\
    ∀(i:Nat),↑i<W (↑a.length+1)->(0:Int)=(List.replicate N 0).getD i 0)/\
   ∀(n n_1:Int) (l:List Int),
    dk a b n n_1 l->
     (n< ↑a.length->
      (0<=n/\n< ↑a.length)/\
       (n< ↑b.length->
        (0<=n/\n< ↑b.length)/\
         (0<=n/\n<max (W (↑a.length+1)) 0)/\
          n< ↑N/\
           dk a b (W (n+1))
            (U (U (U (a.getD n.toNat 0)+n_1)+U (b.getD n.toNat 0))/4294967296)
            (ah i32 N fun i'=>
             af (decide (i'=n.toNat))
              [SV.int IntKind.u32
               (V (U (U (U (a.getD n.toNat 0)+n_1)+U (b.getD n.toNat 0))))]
              [SV.int IntKind.u32 (l.getD i' 0)])/\
            max (↑a.length-W (n+1)) 0< ↑a.length-n/\
             ∀(i:Nat),
              i<N->
               (if i=n.toNat then V (U (U (U (a.getD n.toNat 0)+n_1)+U (b.getD n.toNat 0)))
                else l.getD i 0)=
                (ah i32 N fun i'=>
                 af (decide (i'=n.toNat))
                  [SV.int IntKind.u32
                   (V (U (U (U (a.getD n.toNat 0)+n_1)+U (b.getD n.toNat 0))))]
                  [SV.int IntKind.u32 (l.getD i' 0)]).getD
                 i 0)/\
        (↑b.length<=n->
         (0<=n/\n<max (W (↑a.length+1)) 0)/\
          n< ↑N/\
           dk a b (W (n+1)) (U (U (a.getD n.toNat 0)+n_1)/4294967296)
            (ah i32 N fun i'=>
             af (decide (i'=n.toNat))
              [SV.int IntKind.u32 (V (U (U (a.getD n.toNat 0)+n_1)))]
              [SV.int IntKind.u32 (l.getD i' 0)])/\
            max (↑a.length-W (n+1)) 0< ↑a.length-n/\
             ∀(i:Nat),
              i<N->
               (if i=n.toNat then V (U (U (a.getD n.toNat 0)+n_1))else l.getD i 0)=
                (ah i32 N fun i'=>
                 af (decide (i'=n.toNat))
                  [SV.int IntKind.u32 (V (U (U (a.getD n.toNat 0)+n_1)))]
                  [SV.int IntKind.u32 (l.getD i' 0)]).getD
                 i 0))/\
      (↑a.length<=n->
       ↑a.length<max (W (↑a.length+1)) 0/\
        a.length<N/\
         W (↑a.length+1)<= ↑N/\
          (W (↑a.length+1)).toNat=R.length/\
           ∀(i:Nat),
            ↑i<W (↑a.length+1)->
             (if i=a.length then V n_1 else l.getD i 0)=R.getD i 0):=by
 have hl:=nz ha;have ha:=qv ha;have hb:=qv hb;subst hR;subst hN;rw [aG (n:= ↑a.length+1) (by omega) (by omega)];refine⟨by omega,⟨Mi hab,by omega,fun i hi=>(gR _ _).symm⟩,fun n c l hinv=>⟨fun hn=> ?_,fun hn=> ?_⟩⟩
 . obtain⟨c0,c1,hstep⟩:=F5 ha hb hl hinv hn;have hlen:=zg hinv;have hn0:0<=n:=by unfold dk at hinv;exact hinv.1
   have da:=bH ha n.toNat;have db:=bH hb n.toNat;have ew:W (n+1)=n+1:=aG (by omega) (by omega);rw [ct (n:=a.getD n.toNat 0) (by omega) (by omega),ct (n:=a.getD n.toNat 0+c) (by omega) (by omega)];refine⟨⟨hn0,hn⟩,fun hnb=> ?_,fun hnb=> ?_⟩
   . rw [ct (n:=b.getD n.toNat 0) (by omega) (by omega),ct (by omega) (by omega)];rw [tv hlen.symm];exact⟨⟨hn0,hnb⟩,by omega,by omega,hstep _ rfl,by omega,fun i hi=>(bo (by omega)).symm⟩
   . rw [tv hlen.symm];have e0:b.getD n.toNat 0=0:=by rw [J0,J7 (by omega)];rfl
     exact⟨by omega,by omega,hstep _ (by omega),by omega,fun i hi=>(bo (by omega)).symm⟩
 . obtain⟨e,_⟩:=Hp ha hb hinv hn;have hlen:=zg hinv;refine⟨by omega,by omega,by omega,?_,fun i hi=> ?_⟩
   . rw [zD,Nat.max_eq_left hab];omega
   . rw [<-e,bo (by omega)]
theorem WK {a b:List Int} (ha:cO a) (hb:cO b) (i:Nat): -1<=(nv (a.take i)-nv (b.take i))/pw i/\(nv (a.take i)-nv (b.take i))/pw i<=0:=by
 have h1:=cm ha i;have h2:=cm hb i;have hp:=aE i;refine⟨?_,?_⟩
 . rw [Qp hp];omega
 . have:(nv (a.take i)-nv (b.take i))/pw i<1:=(Kl hp).2 (by omega);omega
theorem Hf {a b:List Int} {i c:Int} {out:List Int} (h:gL a b i c out):out.length=a.length:=by
 unfold gL at h;obtain⟨h1,h2,rfl,h5⟩:=h;simp;omega
theorem Mb (a b:List Int):gL a b 0 0 (List.replicate a.length 0):=by
 unfold gL;simp [dg,nv,fh]
theorem FC {a b:List Int} {i c:Int} {out:List Int} (ha:cO a) (hb:cO b) (hl:a.length<=10000000) (h:gL a b i c out) (hi:i<a.length):
 0<=c/\c<=1/\ ∀s,s=a.getD i.toNat 0-c-b.getD i.toNat 0->gL a b (W (i+1)) (U s/9223372036854775808) (out.set i.toNat (V (U s))):=by
 unfold gL at h⊢;obtain⟨h1,h2,h4,h5⟩:=h;have hb':=WK ha hb i.toNat;refine⟨by omega,by omega,fun s hs=> ?_⟩;have da:=bH ha i.toNat;have db:=bH hb i.toNat;rw [aG (by omega) (by omega),show(i+1).toNat=i.toNat+1 by omega];have e:nv (a.take (i.toNat+1))-nv (b.take (i.toNat+1))=nv (a.take i.toNat)-nv (b.take i.toNat)+pw i.toNat*(a.getD i.toNat 0-b.getD i.toNat 0):=by
  rw [fv,fv,Qm];omega
 have es:s=(nv (a.take i.toNat)-nv (b.take i.toNat))/pw i.toNat+(a.getD i.toNat 0-b.getD i.toNat 0):=by omega
 refine⟨by omega,by omega,?_,?_⟩
 . rw [e];refine uj h4 (by omega) ?_;rw [iA,nt,<-es];omega
 . rw [e,lH,<-es,nt];omega
theorem H7 {a b:List Int} {i c:Int} {out:List Int} (h:gL a b i c out) (hi:(a.length:Int)<=i) (hb:b.length<=a.length):out=oh a b:=by
 unfold gL at h;obtain⟨h1,h2,h4,h5⟩:=h;have e:i=(a.length:Int):=by omega
 subst e;simp only [K7]at*
 rw [h4];unfold oh;rw [Jz (J1 _),Jz hb];simp
theorem Fh (a b:List Int):(oh a b).length=a.length:=by unfold oh;simp
theorem Ll {a b:List Int} (h:zL a b):br a/\br b/\b.length<=a.length/\nv b<=nv a:=by unfold zL at h;exact h
theorem XG :aH Tryz.prog Uh:=av k356 hm Tryz.func306 (by kernel_rfl) (by kernel_rfl) sZ.ok (by kernel_rfl) (fun _=>[]) fun a hp=>by
 have h:SZ a:=by
  rw [<-Nq];simp only [aA];generalize a=z at*
  try dsimp only at hp
  have h1:=dm hp;have h2:=dzL hp;simp [-List.getD_eq_getElem?_getD,hp,h2];omega
 exact h
theorem k380 :aH Tryz.prog WW:=av XG hm Tryz.func380 (by kernel_rfl) (by kernel_rfl) sZ.ok (by kernel_rfl) (fun _=>[]) fun a hp=>by
 have h:Tn a:=by
  rw [<-N6];simp only [aA];generalize a=z at*
  try dsimp only at hp
  simp [-List.getD_eq_getElem?_getD,hp]
 exact h
theorem k287 :aH Tryz.prog Ur:=av k380 hm Tryz.func287 (by kernel_rfl) (by kernel_rfl) sZ.ok (by kernel_rfl) (fun _=>[]) fun a hp=>by
 have h:T1 a:=by
  rw [<-Ps];simp only [aA];generalize a=z at*
  try dsimp only at hp
  have h1:= @oz _ z;simp [-List.getD_eq_getElem?_getD,hp];simp at h1;unfold aW;refine⟨fun h=> ?_,fun h=>⟨fun h=> ?_,fun h=> ?_⟩⟩<;>simp_all<;>omega
 exact h
theorem k355 :aH Tryz.prog Vc:=av k287 hm Tryz.func355 (by kernel_rfl) (by kernel_rfl) sZ.ok (by kernel_rfl) (fun _=>[]) fun a hp=>by
 have h:TO a:=by
  rw [<-Mn];simp only [aA];generalize a=z at*
  try dsimp only at hp
  have h1:=dm hp;have h2:=dzL hp;simp [-List.getD_eq_getElem?_getD,hp,h2];omega
 exact h
theorem k363 :aH Tryz.prog VH:=av k355 hm Tryz.func363 (by kernel_rfl) (by kernel_rfl) sZ.ok (by kernel_rfl) (fun _=>[]) fun a hp=>by
 have h:SB a:=by
  rw [<-O2];simp only [aA];generalize a=z at*
  try dsimp only at hp
  have h1:=dm hp;have h2:=dzL hp;simp [-List.getD_eq_getElem?_getD,hp,h2];omega
 exact h
theorem k391 :aH Tryz.prog U5:=av k363 hm Tryz.func391 (by kernel_rfl) (by kernel_rfl) sU.ok (by kernel_rfl) (fun _=>[]) fun a hp=>by
 have h:Th a:=by
  rw [<-Oy];simp only [aA];generalize a=n at*
  try dsimp only at hp
  obtain⟨h1,h2⟩:=Ds hp;have e:zv false [V n,V (n/4294967296)]=n:=by simp only [zv,h2];rfl
  simp [-List.getD_eq_getElem?_getD,hp,h1,e]
 exact h
theorem k291 :aH Tryz.prog Vb:=av k391 hm Tryz.func291 (by kernel_rfl) (by kernel_rfl) sI.ok (by kernel_rfl) (fun _=>[]) fun a hp=>by
 have h:vc291 a:=by
  rw [<-MV];simp only [aA];generalize a=n at*
  try dsimp only at hp
  have hn:=Nt hp;simp [-List.getD_eq_getElem?_getD];refine⟨fun h=> ?_,fun h=> ?_⟩
  . have e1:U (-U n)= -n:=by rw [nt,nt];omega
    rw [e1];obtain⟨h1,h2⟩:=Ds (n:= -n) (by unfold jW;omega);have e:zv (decide (n<0)) [V (-n),V (-n/4294967296)]=n:=by simp only [zv,h2,h];simp
    rw [e];exact⟨h1,by simp⟩
  . have e1:U n=n:=by rw [nt];omega
    rw [e1];obtain⟨h1,h2⟩:=Ds (n:=n) (by unfold jW;omega);have e:zv (decide (n<0)) [V n,V (n/4294967296)]=n:=by simp only [zv,h2];simp;omega
    rw [e];exact⟨h1,by simp⟩
 exact h
theorem k405 :aH Tryz.prog U4:=av k291 hm Tryz.func405 (by kernel_rfl) (by kernel_rfl) sL.ok (by kernel_rfl) (fun a=>YZ a) fun a hp=>by
 have h:SO a:=by
  rw [<-Lt];simp only [aA];generalize a=l at*
  try dsimp only at hp
  have h1:=nz hp;have ht:=cX l;simp [-List.getD_eq_getElem?_getD];refine⟨ht,fun n hn1 hn2=>⟨fun hn=> ?_,fun hn=> ?_⟩⟩
  . rw [aG (by omega) (by omega)];have hs:=qQ (l:=l) (n:=n.toNat) (by omega) (by omega);rw [show n.toNat-1=(n-1).toNat by omega]at hs;refine⟨by omega,fun e=>⟨?_,by omega⟩,fun e=> ?_⟩
    . have:=hs.1 ⟨by omega,e⟩;omega
    . have hn3: ¬tl l<n.toNat:=fun hlt=>e (hs.2 hlt).2
      exact⟨by omega,by omega,fun i hi=>(qX (by omega)).symm⟩
  . exact⟨by omega,by omega,fun i hi=>(qX (by omega)).symm⟩
 exact h
theorem k359 :aH Tryz.prog Uw:=av k405 hm Tryz.func359 (by kernel_rfl) (by kernel_rfl) To.ok (by kernel_rfl) (fun a=>YC a.1 a.2) fun a hp=>by
 have h:Sl a.1 a.2:=by
  rw [<-MF];simp only [aA];obtain⟨a,b⟩:=a
  try dsimp only at hp
  simp [-List.getD_eq_getElem?_getD,hp];have c1:=OH hp.1;have c2:=OH hp.2;have l1:=Gm hp.1;have l2:=Gm hp.2;refine⟨fun h=>⟨fun h=>(I8 (w9 c1 c2 h)).symm,fun h=>(Ih (w9 c2 c1 (by omega))).symm⟩,fun hl=>⟨?_,fun n hn=> ?_⟩⟩
  . rw [aG (by omega) (by omega)];unfold tw;refine⟨by omega,by omega,by omega,?_⟩;rw [Yf (by omega),Yf (by omega)]
  . unfold tw at hn⊢;obtain⟨n1,n2,n3,n4⟩:=hn;refine⟨fun h0=> ?_,fun h0=> ?_⟩
    . have ew:W (n-1)=n-1:=aG (by omega) (by omega);rw [ew];rw [show(n+1).toNat=n.toNat+1 by omega]at n4;refine⟨by omega,by omega,fun hne=>⟨by omega,by omega,fun hlt=> ?_,fun hge=> ?_⟩,fun he=>⟨⟨by omega,by omega,n3,?_⟩,by omega⟩⟩
      . exact(I8 (JF c1.1 c2.1 (by omega) n3 n4 hlt)).symm
      . exact(Ih (JF c2.1 c1.1 (by omega) n3.symm n4.symm (by omega))).symm
      . rw [show(n-1+1).toNat=n.toNat by omega,Qa (by omega),Qa (i:=n.toNat) (by omega),n4];simp only [J0,J4 (show n.toNat<a.length by omega),J4 (show n.toNat<b.length by omega),K5]at he;rw [he]
    . have e:n= -1:=by omega
      subst e;simp at n4;rw [n4,QJ rfl]
 exact h
theorem k389 :aH Tryz.prog Ut:=av k359 hm Tryz.func389 (by kernel_rfl) (by kernel_rfl) To.ok (by kernel_rfl) (fun a=>ZG a.1 a.2) fun a hp=>by
 have h:TQ a.1 a.2:=by
  rw [<-MT];simp only [aA];obtain⟨a,b⟩:=a
  try dsimp only at hp
  simp [-List.getD_eq_getElem?_getD,hp];refine⟨fun h=> ?_,fun h=> ?_⟩
  . have:=Lk hp.2 hp.1 (by omega) (R:=cf a b) (by unfold cf;rw [Nat.max_comm,Int.add_comm]) (N:=max a.length b.length+1) (by omega);simpa only [Int.natCast_add,Int.cast_ofNat_Int]using this
  . have:=Lk hp.1 hp.2 (by omega) (R:=cf a b) rfl (N:=max a.length b.length+1) (by omega);simpa only [Int.natCast_add,Int.cast_ofNat_Int]using this
 exact h
theorem k390 :aH Tryz.prog VM:=av k389 hm Tryz.func390 (by kernel_rfl) (by kernel_rfl) To.ok (by kernel_rfl) (fun a=>XZ a.1 a.2) fun a hp=>by
 have h:Sr a.1 a.2:=by
  rw [<-Nz];simp only [aA];obtain⟨a,b⟩:=a
  try dsimp only at hp
  obtain⟨h1,h2,h3,h4⟩:=Ll hp;have hl:=nz h1;have ha:=qv h1;have hb:=qv h2;simp [-List.getD_eq_getElem?_getD];refine⟨by omega,⟨Mb a b,fun i hi=>(gR _ _).symm⟩,fun n c l hinv=>⟨fun hn=> ?_,fun hn=> ?_⟩⟩
  . obtain⟨c0,c1,hstep⟩:=FC ha hb hl hinv hn;have hlen:=Hf hinv;have hn0:0<=n:=by unfold gL at hinv;exact hinv.1
    have da:=bH ha n.toNat;have db:=bH hb n.toNat;have ew:W (n+1)=n+1:=aG (by omega) (by omega);rw [ct (n:=a.getD n.toNat 0) (by omega) (by omega)];refine⟨⟨hn0,hn⟩,fun hnb=> ?_,fun hnb=> ?_⟩
    . rw [ct (n:=b.getD n.toNat 0) (by omega) (by omega)];have e:U (U (a.getD n.toNat 0-c)-b.getD n.toNat 0)=U (a.getD n.toNat 0-c-b.getD n.toNat 0):=by
       simp only [nt];omega
      rw [e,tv hlen.symm];have:=hstep _ rfl
      and_intros<;>first|omega|assumption|exact fun i hi=>(bo (by omega)).symm
    . have e0:b.getD n.toNat 0=0:=by rw [J0,J7 (by omega)];rfl
      rw [tv hlen.symm];have:=hstep (a.getD n.toNat 0-c) (by omega)
      and_intros<;>first|omega|assumption|exact fun i hi=>(bo (by omega)).symm
  . have e:=H7 hinv hn h3;rw [Fh,<-e];exact⟨rfl,fun _ _=>rfl⟩
 exact h
end Go.Proofs.Big
