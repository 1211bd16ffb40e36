import Derived.Test.YtpjiopgakifhaaaGreatRA
import Derived.Maps.AppendAt
import Derived.Lib.AppendStr
import Derived.Laws.CopyRow
set_option linter.unusedSectionVars false
set_option linter.unusedSimpArgs false
set_option linter.unusedVariables false
set_option maxRecDepth 100000
namespace Go.Sx
open Go Go.RowKit
variable [bW]
def Ub:Value->Value->Bool
 |.int _ x,.int _ y=>x==y
 |.bool x,.bool y=>x==y
 |.string x,.string y=>x==y
 |_,_=>false
def KV:CK->Value->Prop
 |.int k,.int b _=>k=b
 |.bool,.bool _=>True
 |.str,.string _=>True
 |_,_=>False
def allEq(c d:Array Value)(b n:Nat):Bool:=(List.range n).all λk=>Ub (c.getD (b+k) undef) (d.getD (b+k) undef)
theorem ua(c d:Array Value)(b m n:Nat):allEq c d b (m+n)=(allEq c d b m&&allEq c d (b+m) n):=by
 simp only[allEq,List.range_add,List.all_append,List.all_map]
 congr 1
 congr 1
 funext k
 simp[Kt]
def Typed(d:Array Value)(b:Nat)(e:List CK):Prop:=b+e.length<=d.size/\∀(k:Nat)(c:CK),e[k]?=some c->KV c (d.getD (b+k) undef)
theorem Typed.left{d:Array Value}{b:Nat}{e j:List CK}(h:Typed d b (e++j)):Typed d b e:=
 ⟨by have:=h.1;simp at this;omega,λk c i=>h.2 k c (by rw[Ka (Jb.1 i).1];exact i)⟩
theorem Typed.right{e:Array Value}{b:Nat}{d i:List CK}(h:Typed e b (d++i)):Typed e (b+d.length) i:=
 ⟨by have:=h.1;simp at this;omega,λk c j=>by rw[Kt];exact h.2 (d.length+k) c (by rw[Jy (by omega)];simpa using j)⟩
theorem Typed.extract{d:Array Value}{b n:Nat}{i:List CK}(h:Typed d b i)(m:n=i.length):Typed (d.extract b (b+n)) 0 i:=by
 subst m;refine⟨by have:=h.1;simp;omega,λk c j=>?_⟩;have o:=(Jb.1 j).1;have:=h.2 k c j;have e:(d.extract b (b+i.length)).getD (0+k) undef=d.getD (b+k) undef:=by
  rw[Jg,Jf,Ye,JB (by have:=h.1;omega),Jf]
 rw[e];exact this
theorem rJ{d i:Array Value}{b n:Nat}(m:b+n<=d.size)(o:b+n<=i.size):allEq (d.extract b (b+n)) (i.extract b (b+n)) 0 n=allEq d i b n:=by
 simp only[allEq];have:∀k∈List.range n,Ub ((d.extract b (b+n)).getD (0+k) undef) ((i.extract b (b+n)).getD (0+k) undef)=Ub (d.getD (b+k) undef) (i.getD (b+k) undef):=by
  intro k c;have c:=Kn.1 c;have e:∀j:Array Value,b+n<=j.size->(j.extract b (b+n)).getD (0+k) undef=j.getD (b+k) undef:=by
   intro j p;rw[Jg,Jf,Ye,JB (by omega),Jf]
  rw[e d m,e i o]
 rw[Xm,Js,Js];exact⟨λh k c=>by rw[<-this k c];exact h k c,λh k c=>by rw[this k c];exact h k c⟩
section
variable {P : Program} (w : World)
theorem uy{T:TypeId}{d:List CK}{n:Nat}{agg:Bool}(c:bZ P T=some agg)(e:cw P T=some n)(j:d.length=n){xs:Array Value}{b:Nat}(h:Typed xs b d)(i:agg=false->n=1):
 (part T xs b).run P w=.ok (if agg then .agg (xs.extract b (b+n))else xs.getD b undef) w:=by
 cases agg with
 |true=>simpa using oG c e xs b
 |false=>
  have:=i rfl;simpa using oj c xs b (by have:=h.1;omega)
theorem IJ:∀{d:Nat}{T:TypeId}{b:List CK},dC P d T=some b->∃agg,bZ P T=some agg/\(agg=false->b.length=1)
 |0,_,_,h=>by simp[dC]at h
 |d+1,T,b,h=>by
  unfold dC at h;unfold bZ;split at h
  . rename_i hu;simp at h;subst h;exact⟨false,by simp[hu],by simp⟩
  . rename_i hu;simp at h;subst h;exact⟨false,by simp[hu],by simp⟩
  . rename_i hu;simp at h;subst h;exact⟨false,by simp[hu],by simp⟩
  . rename_i hu;exact⟨true,by simp[hu],by simp⟩
  . rename_i hu;exact⟨true,by simp[hu],by simp⟩
  . cases h
theorem qw:∀(d:Nat)(T:TypeId)(G:List CK)(n:Nat)(agg:Bool),dC P d T=some G->bZ P T=some agg->n=G.length->∀(D:Nat),d<=D->
 ∀(xs A:Array Value)(off:Nat),Typed xs off G->Typed A off G->
 (Op.equalIn D T (if agg then .agg (xs.extract off (off+n))else xs.getD off undef) (if agg then .agg (A.extract off (off+n))else A.getD off undef)).run P w=.ok (allEq xs A off n) w
 |0,_,_,_,_,h,_,_,_,_,_,_,_,_,_=>by simp[dC]at h
 |d+1,T,G,n,agg,h,q,L,D,hD,xs,A,off,Z,hy=>by
  obtain⟨D,rfl⟩:∃D',D=D'+1:=⟨D-1,by omega⟩;have one:∀c,G=[c]->agg=false->KV c (xs.getD off undef)/\KV c (A.getD off undef)/\allEq xs A off n=Ub (xs.getD off undef) (A.getD off undef):=by
   rintro c rfl _;refine⟨by simpa using Z.2 0 c rfl,by simpa using hy.2 0 c rfl,?_⟩;subst L;simp[allEq,Q7]
  unfold dC at h;split at h
  . rename_i k hu;simp at h;have E:agg=false:=by simpa[bZ,hu]using q.symm
    obtain⟨H,J,k3⟩:=one _ h.symm E;subst E;simp only[Jr,JF,k3];generalize xs.getD off undef=x at H⊢;generalize A.getD off undef=y at J⊢;cases x<;>simp[KV]at H
    cases y<;>simp[KV]at J
    subst H;subst J;rw[run_equalIn_int w D T _ _ _ _ hu];rfl
  . rename_i hu;simp at h;have E:agg=false:=by simpa[bZ,hu]using q.symm
    obtain⟨H,J,k3⟩:=one _ h.symm E;subst E;simp only[Jr,JF,k3];generalize xs.getD off undef=x at H⊢;generalize A.getD off undef=y at J⊢;cases x<;>simp[KV]at H
    cases y<;>simp[KV]at J
    rw[run_equalIn_bool w D T _ _ hu];rfl
  . rename_i hu;simp at h;have E:agg=false:=by simpa[bZ,hu]using q.symm
    obtain⟨H,J,k3⟩:=one _ h.symm E;subst E;simp only[Jr,JF,k3];generalize xs.getD off undef=x at H⊢;generalize A.getD off undef=y at J⊢;cases x<;>simp[KV]at H
    cases y<;>simp[KV]at J
    simp[Op.equalIn,run_underlying hu,Ub]
  . rename_i fs hu;have E:agg=true:=by simpa[bZ,hu]using q.symm
    subst E;split at h
    . cases h
    rename_i K;simp only[JE];have M:P.fieldsOf T=fs:=by simp[Program.fieldsOf,hu]
    rw[run_equalIn_struct w D T _ _ (by rw[M];exact hu) (by simpa using K),M];have B:=Z.extract L;have C:=hy.extract L;rw[<-rJ (by have:=Z.1;omega) (by have:=hy.1;omega)];generalize xs.extract off (off+n)=X at B⊢;generalize A.extract off (off+n)=Y at C⊢;subst L;clear Z hy M hu one;have ac:∀(l:List Field)(o:Nat)(kl:List CK),dC.fields (λt=>dC P d t) P o l=some kl->Typed X o kl->Typed Y o kl->(Op.eqFields D X Y l).run P w=.ok (allEq X Y o kl.length) w:=by
     intro l
     induction l with
     |nil=>intro o kl u _ _;simp[dC.fields]at u;subst u;simp[Op.eqFields,allEq]
     |cons f l ih=>
      intro o kl u tx ty;simp only[dC.fields]at u;split at u
      case h_2=>cases u
      rename_i fk m ad hm;split at u
      case isFalse=>cases u
      rename_i hc;obtain⟨N,al,p⟩:=hc;simp only[Jp]at u;obtain⟨kr,ay,rfl⟩:=u;obtain⟨fa,O,aq⟩:=IJ ad;have p1:=uy (P:=P) w O hm p (xs:=X) tx.left (λe=>by rw[<-p];exact aq e);have p2:=uy (P:=P) w O hm p (xs:=Y) ty.left (λe=>by rw[<-p];exact aq e);have pe:=qw d f.type fk m fa ad O p.symm D (by omega) X Y o tx.left ty.left;simp only[Op.eqFields,N,ne_eq,not_false_eq_true,JE,Sem.run_bind,al,p1,p2,pe,Result.andThen_ok]
      rw[Y0,ua,p];cases hb:allEq X Y o m with
      |false=>simp
      |true=>
       simp only[Bool.not_true,Jr,JF,Qh];have:=ih (o+m) kr ay (by rw[<-p];exact tx.right) (by rw[<-p];exact ty.right);exact this
    exact ac fs.toList 0 G h B C
  . rename_i len e hu;have E:agg=true:=by simpa[bZ,hu]using q.symm
    subst E;split at h
    case h_2=>cases h
    rename_i ek m aw hm;split at h
    case isFalse=>cases h
    rename_i p;simp only[J3]at h;simp only[JE];have B:=Z.extract L;have C:=hy.extract L;rw[<-rJ (by have:=Z.1;omega) (by have:=hy.1;omega)];generalize xs.extract off (off+n)=X at B⊢;generalize A.extract off (off+n)=Y at C⊢;obtain⟨ea,R,ax⟩:=IJ aw;have az:G.length=len*m:=by rw[<-h];simp[p]
    subst L;have loop:∀(c i:Nat),i+c=len->(forIn (m:=Sem) (List.range' i c) ((none,()):Option Bool×Unit) λj r=>do
     let a<-part e X (j*m)
     let b<-part e Y (j*m)
     let r'<-Op.equalIn D e a b
     if(!r')=true then pure (ForInStep.done (some false,()))else pure (ForInStep.yield (none,()))).run P w=.ok ((if allEq X Y (i*m) (c*m)then none else some false),()) w:=by
     intro c
     induction c with
     |zero=>intro i _;simp[allEq]
     |succ c ih=>
      intro i hi;have z:Typed X (i*m) ek/\Typed Y (i*m) ek:=by
       have key:∀(k:Nat)(F:CK),ek[k]?=some F->G[i*m+k]?=some F:=by
        intro k F u;have bb:=(Jb.1 u).1;rw[<-h];have:∀(t i:Nat),i<t->((List.replicate t ek).flatten)[i*m+k]?=some F:=by
         intro t
         induction t with
         |zero=>intro i hi;omega
         |succ t aD=>
          intro i hi;rw[Qy,List.flatten_cons];cases i with
          |zero=>rw[Ka (by omega)];simpa using u
          |succ i=>
           rw[Jy (by rw[Ji];omega)];rw[show(i+1)*m+k-ek.length=i*m+k from by rw[Ji];omega];exact aD i (by omega)
        exact this len i (by omega)
       have hb:i*m+m<=len*m:=by
        have:(i+1)*m<=len*m:=Jl _ (by omega);rw[Ji]at this;omega
       refine⟨⟨by have:=B.1;omega,λk F u=>?_⟩,⟨by have:=C.1;omega,λk F u=>?_⟩⟩
       . have:=B.2 _ F (key k F u);rwa[Jg]at this
       . have:=C.2 _ F (key k F u);rwa[Jg]at this
      have p1:=uy (P:=P) w R hm p (xs:=X) z.1 (λe=>by rw[<-p];exact ax e);have p2:=uy (P:=P) w R hm p (xs:=Y) z.2 (λe=>by rw[<-p];exact ax e);have pe:=qw d e ek m ea aw R p.symm D (by omega) X Y (i*m) z.1 z.2;rw[Z7,List.forIn_cons];simp only[Sem.run_bind,p1,p2,pe,Result.andThen_ok];have e2:allEq X Y (i*m) ((c+1)*m)=(allEq X Y (i*m) m&&allEq X Y ((i+1)*m) (c*m)):=by
       rw[show(c+1)*m=m+c*m from by rw[Ji];omega,ua,Ji,Nat.one_mul]
      rw[e2];cases hb:allEq X Y (i*m) m with
      |false=>simp
      |true=>
       simp only[Bool.not_true,Jr,JF,Sem.run_pure,Result.andThen_ok,Qh];exact ih (i+1) (by omega)
    simp only[Op.equalIn,Sem.run_bind,run_underlying hu,Result.andThen_ok,aS hm,Std.Legacy.Range.forIn_eq_forIn_range',Std.Legacy.Range.size,Xf,Nat.add_one_sub_one,Nat.div_one];have hl:=loop len 0 (by omega);rw[az];simp only[Yy]at hl;rw[hl];simp only[Result.andThen_ok];cases allEq X Y 0 (len*m)<;>simp
  . cases h
end
end Go.Sx
namespace Go.Sx
open Go Go.RowKit
variable [bW]
section
variable {E : Env} {P : Program} {ro : RO} {own : Own} {s : St} {w : World} {a : Act}
theorem Bs{x:SV}(h:iM x=some .bool):∃b,Lz x=some b:=by
 cases x<;>simp[iM]at h<;>exact⟨_,rfl⟩
theorem EU{x y:SV}{p q:Bool}(b:Lz x=some p)(c:Lz y=some q):ot x y=(p==q):=by
 cases x<;>simp[Lz]at b<;>cases y<;>simp[Lz]at c<;>subst b<;>subst c<;>rfl
theorem DZ{x y:SV}{k:CK}{v u:Value}(d:Rel ro own x v)(e:Rel ro own y u)(b:iM x=some k)(c:iM y=some k):KV k v/\KV k u/\Ub v u=ot x y:=by
 cases k with
 |bool=>
  obtain⟨p,h⟩:=Bs b;obtain⟨q,i⟩:=Bs c;rw[xj d h,xj e i,EU h i];exact⟨trivial,trivial,rfl⟩
 |int k=>
  cases x<;>simp[iM]at b
  cases y<;>simp[iM]at c
  subst b;subst c;rw[aK d,aK e];exact⟨rfl,rfl,rfl⟩
 |str=>
  cases x<;>simp[iM]at b
  cases y<;>simp[iM]at c
  rename_i j m;rw[dR d,dR e];refine⟨trivial,trivial,?_⟩;show((⟨j⟩:Array UInt8)==⟨m⟩)=(j==m)
  simp
theorem jG:∀{e:List SV}{b:List CK},sO e b=true->e.length=b.length/\∀(j:Nat)(c:CK),b[j]?=some c->∃v,e[j]?=some v/\iM v=some c
 |[],[],_=>⟨rfl,by simp⟩
 |v::r,k::b,h=>by
  simp only[sO,J2,JN]at h;obtain⟨i,m⟩:=jG h.2;refine⟨by simp[i],λj c d=>?_⟩;cases j with
  |zero=>simp at d;subst d;exact⟨v,rfl,h.1⟩
  |succ j=>simp at d;simpa using m j c d
 |[],_::_,h=>by simp[sO]at h
 |_::_,[],h=>by simp[sO]at h
theorem nP:∀{xs ys:List SV},xs.length=ys.length->(tJ xs ys=true↔ ∀(j:Nat)(x y:SV),xs[j]?=some x->ys[j]?=some y->ot x y=true)
 |[],[],_=>by simp[tJ]
 |x::r,y::r',h=>by
  simp only[tJ,J2,nP (xs:=r) (ys:=r') (by simpa using h)];constructor
  . rintro⟨e,i⟩ j a b c d;cases j with
    |zero=>simp at c d;subst c;subst d;exact e
    |succ j=>simp at c d;exact i j a b c d
  . intro h;exact⟨h 0 x y rfl rfl,λj a b c d=>h (j+1) a b (by simpa using c) (by simpa using d)⟩
 |[],_::_,h=>by simp at h
 |_::_,[],h=>by simp at h
theorem uW{n b:Nat}{f:Nat->List SV}{r:List ar}{c:List CK}(h:ef (.a n b f::r) c):(∀i,i<n->sO (f i) ((c.drop (i*b)).take b)=true)/\n*b<=c.length/\ef r (c.drop (n*b)):=by
 simp only[ef,aL,J2,aaa,Js,Kn,JG,Nat.ble_eq]at h;obtain⟨⟨e,j⟩,k,m⟩:=h;exact⟨λi d=>by rw[e i d];exact k i d,j,m⟩
theorem nM:∀{l:List ar}{e:List CK},ef l e->aa l=e.length/\∀(k:Nat)(c:CK),e[k]?=some c->∃v,flat l k=some v/\iM v=some c
 |[],e,h=>by
  simp only[ef,aL,List.isEmpty_iff]at h;obtain⟨rfl,_⟩:=h;exact⟨rfl,by simp⟩
 |.s v::r,k::e,h=>by
  simp only[ef,aL,JN]at h;obtain⟨o,p⟩:=nM h.2;refine⟨by simp[aa,ar.size,o];omega,λj c d=>?_⟩;cases j with
  |zero=>simp at d;subst d;exact⟨v,cC _ _,h.1⟩
  |succ j=>simp at d;rw[cB];exact p j c d
 |.s v::r,[],h=>by simp[ef]at h
 |.a n es f::r,e,h=>by
  obtain⟨i,u,x⟩:=uW h;obtain⟨o,p⟩:=nM x;rw[Xd]at o;refine⟨by simp[aa,ar.size,o];omega,λj c d=>?_⟩
  by_cases b:j<n*es
  . have m:0<es:=by
     rcases Jw es with i|i
     . subst i;simp at b
     . exact i
    have y:j/es<n:=by rw[K9 m];exact b
    obtain⟨A,z⟩:=jG (i (j/es) y);have q:j/es*es+j%es=j:=by rw[Km];exact Q5 j es
    rw[cy b];exact z (j%es) c (by rw[Q6,JB (Ki _ m),Qg,q];exact d)
  . rw[gZ b];exact p (j-n*es) c (by rw[Qg,show n*es+(j-n*es)=j from by omega];exact d)
theorem aas:∀{l z:List ar}{A:List CK},bG l z=true->ef l A->ef z A->(iI l z=true↔ ∀(k:Nat)(x y:SV),flat l k=some x->flat z k=some y->ot x y=true)
 |[],[],_,_,_,_=>by simp[iI,flat]
 |.s v::r,.s u::r',k::A,d,h,o=>by
  simp only[bG,Qh]at d;simp only[ef,aL]at h o;simp only[iI,J2,aas d h.2 o.2];constructor
  . rintro⟨B,C⟩ j x y b c;cases j with
    |zero=>rw[cC]at b c;simp at b c;subst b;subst c;exact B
    |succ j=>rw[cB]at b c;exact C j x y b c
  . intro q;exact⟨q 0 v u (cC _ _) (cC _ _),λj x y b c=>q (j+1) x y (by rw[cB];exact b) (by rw[cB];exact c)⟩
 |.s v::r,.s u::r',[],_,h,_=>by simp[ef]at h
 |.a n es f::r,.a n' es' g::r',A,d,h,o=>by
  simp only[bG,J2,JN]at d;obtain⟨⟨rfl,rfl⟩,d⟩:=d;have h:=uW h;have o:=uW o;simp only[iI,J2,aas d h.2.2 o.2.2,Js,Kn];have H:∀i,i<n->(f i).length=(g i).length:=λi e=>by rw[(jG (h.1 i e)).1,(jG (o.1 i e)).1]
  have D:∀i,i<n->(f i).length=es:=λi e=>by
   rw[(jG (h.1 i e)).1,Kj,Xd];have:(i+1)*es<=n*es:=Jl _ e;rw[Ji]at this;have:=h.2.1;omega
  constructor
  . rintro⟨B,C⟩ j x y b c
    by_cases m:j<n*es
    . have F:0<es:=by
       rcases Jw es with G|G
       . subst G;simp at m
       . exact G
      have e:j/es<n:=by rw[K9 F];exact m
      rw[cy m]at b c;exact(nP (H _ e)).1 (B _ e) _ x y b c
    . rw[gZ m]at b c;exact C _ x y b c
  . intro q;refine⟨λi e=>(nP (H i e)).2 λj x y b c=>?_,λj x y b c=>?_⟩
    . have J:j<es:=by rw[<-D i e];exact(Jb.1 b).1
      have p:i*es+j<n*es:=by
       have:(i+1)*es<=n*es:=Jl _ e;rw[Ji]at this;omega
      have K:=lM (f:=f) e J;have L:=lM (f:=g) e J;simp only[ar.at,p,JE]at K L;exact q (i*es+j) x y (by rw[cy p,K];exact b) (by rw[cy p,L];exact c)
    . exact q (n*es+j) x y (by rw[gZ (by omega),show n*es+j-n*es=j from by omega];exact b) (by rw[gZ (by omega),show n*es+j-n*es=j from by omega];exact c)
 |.s _::_,.a _ _ _::_,_,d,_,_=>by simp[bG]at d
 |.a _ _ _::_,.s _::_,_,d,_,_=>by simp[bG]at d
 |[],_::_,_,d,_,_=>by simp[bG]at d
 |_::_,[],_,d,_,_=>by simp[bG]at d
theorem HA{T:TypeId}{l z:List ar}{d:List CK}{v u:Value}(L:dC P 8 T=some d)(B:bZ P T=some true)(M:bG l z=true)(G:ef l d)(H:ef z d)(N:Rel ro own (.agg l) v)(O:Rel ro own (.agg z) u):
 ∃i j:Array Value,v=.agg i/\u=.agg j/\(Op.equalIn 10000 T (.agg i) (.agg j)).run P w=.ok (iI l z) w:=by
 obtain⟨i,rfl,D,R⟩:=cU N;obtain⟨j,rfl,F,X⟩:=cU O;refine⟨i,j,rfl,rfl,?_⟩;obtain⟨f1,f2⟩:=nM G;obtain⟨Z,g2⟩:=nM H;have cell:∀(k:Nat)(c:CK),d[k]?=some c->KV c (i.getD k undef)/\KV c (j.getD k undef)/\∃x y,flat l k=some x/\flat z k=some y/\Ub (i.getD k undef) (j.getD k undef)=ot x y:=by
  intro k c A;obtain⟨x,m,kx⟩:=f2 k c A;obtain⟨y,q,ky⟩:=g2 k c A;obtain⟨e1,e2,e3⟩:=DZ (R k x m) (X k y q) kx ky;exact⟨e1,e2,x,y,m,q,e3⟩
 have C:allEq i j 0 d.length=iI l z:=by
  rw[Xm,aas M G H];simp only[allEq,Js,Kn,Jg];constructor
  . intro h k x y m q;have r:k<d.length:=by rw[<-f1];exact cK m
    obtain⟨_,_,J,K,o,p,e⟩:=cell k _ (J4 r);rw[m]at o;rw[q]at p;simp only[J3]at o p;subst o;subst p;rw[<-e];exact h k r
  . intro h k r;obtain⟨_,_,J,K,o,p,e⟩:=cell k _ (J4 r);rw[e];exact h k J K o p
 have t1:Typed i 0 d:=⟨by omega,λk c A=>by rw[Jg];exact(cell k c A).1⟩;have t2:Typed j 0 d:=⟨by omega,λk c A=>by rw[Jg];exact(cell k c A).2.1⟩;have b:=qw (P:=P) w 8 T d d.length true L B rfl 10000 (by omega) i j 0 t1 t2;rw[C]at b;simp only[JE,Jg]at b;rw[show i.extract 0 d.length=i from by rw[<-f1,<-D];simp,show j.extract 0 d.length=j from by rw[<-Z,<-F];simp]at b;exact b
theorem fu{b:BinOp}{T:TypeId}{x y:Operand}{v u:Value}(c:v.oneCell'=true)(d:v≠ .nilIface):(eqGuard b T x y v u).run P w=.ok () w:=by
 cases v<;>first
  |exact absurd rfl d
  |(cases b<;>rfl)
  |cases c
theorem uF(h:bA E ro own s w a){o:Oper}{i:BinOp}{T U:TypeId}{x y:Operand}(ho:o.op=.binOp i T x y U){X Z:SV}(C:Rel ro own X (a.eval x))(D:Rel ro own Z (a.eval y)){ws}(b:(yp P E.N o.dst i T X Z).ok s ws):fW E P o s w a ws:=by
 have go:∀{z:SV}{v:Value},(eqGuard i T x y (a.eval x) (a.eval y)).run P w=.ok () w->(binOp i T (a.eval x) (a.eval y)).run P w=.ok v w->Rel ro own z v->(bm E.N o.dst z).ok s ws->fW E P o s w a ws:=by
  intro z v d c H b;refine aP h (v:=v) ?_ H b;unfold execOp;simp[ho,d,c]
 unfold yp at b;split at b
 . rename_i k a1 k' b1;have j:=aK C;have m:=aK D;rw[j,m]at go;have d:∀{i:BinOp},(eqGuard i T x y (.int k a1) (.int k' b1)).run P w=.ok () w:=fu rfl (by simp);split at b
   . obtain⟨B,b⟩:=b;exact go d (by simp[binOp,shift_shl_any _ _ _ _ B]) (.int _ _ _) b
   . obtain⟨B,b⟩:=b;exact go d (by simp[binOp,shift_shr_any _ _ _ _ B]) (.int _ _ _) b
   . split at b
     case isFalse=>exact b.elim
     rename_i e;subst e;obtain⟨B,b⟩:=b;exact go d (by simp[binOp,Op.intDiv,B]) (.int _ _ _) b
   . split at b
     case isFalse=>exact b.elim
     rename_i e;subst e;obtain⟨B,b⟩:=b;exact go d (by simp[binOp,Op.intDiv,B]) (.int _ _ _) b
   . rename_i n1 n2 n3 n4;split at b
     case isFalse=>exact b.elim
     rename_i e;subst e;split at b
     case h_2=>exact b.elim
     rename_i k2 v hu hv;have:∃u,(binOp i T (.int k a1) (.int k b1)).run P w=.ok u w/\Rel ro own v u:=by
      cases i<;>simp[E7]at hv<;>subst hv
      case add=>exact⟨_,by simp[binOp,Op.intArith],.int _ _ _⟩
      case sub=>exact⟨_,by simp[binOp,Op.intArith],.int _ _ _⟩
      case mul=>exact⟨_,by simp[binOp,Op.intArith],.int _ _ _⟩
      case and=>exact⟨_,by rw[binOp_and];rfl,.int _ _ _⟩
      case or=>exact⟨_,by rw[binOp_or];rfl,.int _ _ _⟩
      case xor=>exact⟨_,by rw[binOp_xor];rfl,.int _ _ _⟩
      case andNot=>exact⟨_,by rw[binOp_andNot];rfl,.int _ _ _⟩
      all_goals exact⟨_,by simp[binOp,Op.intCmp],.bool _ _⟩
     obtain⟨u,c,H⟩:=this;exact go d c H b
 . rename_i r A;have j:=dR C;have m:=dR D;rw[j,m]at go;have d:∀{i:BinOp},(eqGuard i T x y (.string ⟨r.toArray⟩) (.string ⟨A.toArray⟩)).run P w=.ok () w:=fu rfl (by simp);have F:(⟨r.toArray⟩:ByteArray).toList=r:=by rw[ByteArray.toList_eq]
   have G:(⟨A.toArray⟩:ByteArray).toList=A:=by rw[ByteArray.toList_eq]
   have s1:(⟨r.toArray⟩:ByteArray).size=r.length:=rfl;have s2:(⟨A.toArray⟩:ByteArray).size=A.length:=rfl;split at b
   . obtain⟨B,b⟩:=b;have J: ¬(((r.length+A.length:Nat):Int)>IntKind.i64.max):=by
      have:IntKind.i64.max=9223372036854775807:=by decide
      rw[this];omega
     have K:(⟨r.toArray⟩:ByteArray)++⟨A.toArray⟩=⟨(r++A).toArray⟩:=by
      apply ByteArray.ext;rw[ByteArray.data_append];simp
     exact go d (v:=.string ⟨(r++A).toArray⟩) (by simp only[binOp,Op.stringOp,s1,s2,J,JF,Sem.run_pure,K]) (.str _ _) b
   . exact go d (v:=.bool (r==A)) (by simp only[binOp,Op.stringOp,F,G,Sem.run_pure]) (.bool _ _) b
   . exact go d (v:=.bool (!(r==A))) (by simp only[binOp,Op.stringOp,F,G,Sem.run_pure]) (.bool _ _) b
   . exact b.elim
 . rename_i l l';split at b
   case h_2=>exact b.elim
   rename_i ks L;split at b
   case isFalse=>exact b.elim
   rename_i hc;obtain⟨M,O,R⟩:=hc;obtain⟨⟨f1,f2⟩,b⟩:=b;obtain⟨xs,ys,F,G,c⟩:=HA (w:=w) L R O f1 f2 C D;rw[F,G]at go;have d:(eqGuard i T x y (.agg xs) (.agg ys)).run P w=.ok () w:=run_eqGuard_agg w i T x y xs ys M;split at b
   . exact go d (v:=.bool (iI l l')) (by rw[run_eql_struct,c];rfl) (.bool _ _) b
   . exact go d (v:=.bool (!iI l l')) (by rw[run_neq_struct,c];rfl) (.bool _ _) b
   . exact b.elim
 . split at b
   case h_2=>exact b.elim
   rename_i p q hp hq hu;have j:=xj C hp;have m:=xj D hq;rw[j,m]at go;have d:∀{i:BinOp},(eqGuard i T x y (.bool p) (.bool q)).run P w=.ok () w:=fu rfl (by simp);split at b
   . exact go d (v:=.bool (p==q)) (by simp[binOp,run_equal_bool w T p q hu]) (.bool _ _) b
   . exact go d (v:=.bool (!(p==q))) (by simp[binOp,run_equal_bool w T p q hu]) (.bool _ _) b
   . exact b.elim
theorem RL(h:bA E ro own s w a){o:Oper}{d:BinOp}{T U:TypeId}{x y:Operand}(e:o.op=.binOp d T x y U){ws}(b:(fR x λx=>fR y λy=>yp P E.N o.dst d T x y).ok s ws):fW E P o s w a ws:=by
 obtain⟨k,i,c⟩:=aZ h b;obtain⟨m,j,b⟩:=aZ h c;exact uF h e i j b
theorem He{b:BinOp}{T:TypeId}{k:IntKind}{c d:Int}{v:SV}(e:E7 b k c d=some v):∃u,(binOp b T (.int k c) (.int k d)).run P w=.ok u w/\Rel ro own v u:=by
 cases b<;>simp[E7]at e<;>subst e
 case add=>exact⟨_,by simp[binOp,Op.intArith],.int _ _ _⟩
 case sub=>exact⟨_,by simp[binOp,Op.intArith],.int _ _ _⟩
 case mul=>exact⟨_,by simp[binOp,Op.intArith],.int _ _ _⟩
 case and=>exact⟨_,by rw[binOp_and];rfl,.int _ _ _⟩
 case or=>exact⟨_,by rw[binOp_or];rfl,.int _ _ _⟩
 case xor=>exact⟨_,by rw[binOp_xor];rfl,.int _ _ _⟩
 case andNot=>exact⟨_,by rw[binOp_andNot];rfl,.int _ _ _⟩
 all_goals exact⟨_,by simp[binOp,Op.intCmp],.bool _ _⟩
end
end Go.Sx
namespace Go.Sx
open Go Go.RowKit
variable [bW]
theorem qc(b:Nat):∀(d:List Value)(j:Nat)(c:Array Value),(d.zipIdx j).foldl (λc (x:Value×Nat)=>c.setIfInBounds (b+x.2) x.1) c=dw c (b+j) d
 |[],_,_=>rfl
 |v::r,j,c=>by
  rw[List.zipIdx_cons,List.foldl_cons,qc b r (j+1)];rfl
theorem qM{P:Program}{w:World}:∀(b:List Field),b.all (λf=>(cw P f.type).isSome)=true->((b.mapM λf=>do pure (f.offset,<-sizeOf f.type):Sem (List (Nat×Nat)))).run P w=.ok (b.map λf=>(f.offset,(cw P f.type).getD 0)) w
 |[],_=>by simp
 |f::r,h=>by
  simp only[List.all_cons,J2]at h;obtain⟨n,c⟩:=Qi.1 h.1;simp only[Xn,Sem.run_bind,aS c,Result.andThen_ok,Sem.run_pure,qM r h.2,J8,c,K5]
section
variable {E : Env} {P : Program} {ro : RO} {own : Own} {s : St} {w : World} {a : Act}
theorem AR{b:Nat->Option (Nat×Nat)}{i off n:Nat}{v:Value}{d:Array Value}{c:List (Nat×Value)}(e:b i=some (off,n))(h:v.cells.size=n)(j:off+n<=d.size):
 Instr.fill b d ((i,v)::c)=Instr.fill b (dw d off v.cells.toList) c:=by
 simp only[Instr.fill,e];rw[JA (by simp[h];omega)]
 congr 1
 have:=qc off v.cells.toList 0 d;rw[Jv]at this;rw[<-this,<-Array.foldl_toList];simp[Array.toList_zipIdx]
def mK(ro:RO)(own:Own)(l:List ar)(b:Array Value):Prop:=b.size=aa l/\∀(k:Nat)(c:SV),flat l k=some c->Rel ro own c (b.getD k undef)
theorem wk{T:TypeId}{q:Array Field}(G:P.underlying T=some (.struct q)):∀{parts:List (Nat×SV)}{b:List (Nat×Value)}{l p:List ar}{j:Array Value},B8 P T parts l=some p->mK ro own l j->
 parts.map (·.1)=b.map (·.1)->aQ ro own (parts.map (·.2)) (b.map (·.2))->∃c,Instr.fill (λi=>(q[i]?).map λf=>(f.offset,(cw P f.type).getD 0)) j b=some c/\mK ro own p c
 |[],[],l,p,j,h,hc,_,_=>by simp[B8]at h;subst h;exact⟨j,rfl,hc⟩
 |(i,x)::r,(i',v)::vr,l,p,j,h,hc,d,u=>by
  simp only[J8,Qw]at d;obtain⟨rfl,d⟩:=d;obtain⟨J,u⟩:=u;simp only[B8]at h;split at h
  case h_2=>cases h
  rename_i f m K y;split at h
  case isFalse=>cases h
  rename_i L;split at h
  case h_2=>cases h
  rename_i A B M N;obtain⟨O,a2,R⟩:=gW M;obtain⟨b1,X⟩:=jo N;obtain⟨v1,Z⟩:=vu J y;have z:q[i]?=some f:=by simpa[nY,G]using K
  have C:mK ro own (A++m++B) (dw j f.offset v.cells.toList):=by
   have o:v.cells.toList.length=aa m:=by simpa using v1
   refine⟨by rw[jn,cu,cu,hc.1];omega,λk D e=>?_⟩;rw[ji k f.offset O]at e;rw[jl _ _ _ _ (by rw[o,hc.1];omega),o,GB]
   by_cases F:k<f.offset
   . rw[JB F,R k F]at e;rw[JA (by omega)];exact hc.2 k D e
   . rw[JA F]at e
     by_cases H:k<f.offset+aa m
     . rw[JB H]at e;rw[JB (by omega)];exact Z _ D e
     . rw[JA H,X,show f.offset+aa m+(k-(f.offset+aa m))=k from by omega]at e;rw[JA (by omega)];exact hc.2 k D e
  obtain⟨c,e1,e2⟩:=wk G h C d u;exact⟨c,by rw[AR (off:=f.offset) (n:=aa m) (by simp[z,L]) v1 (by rw[hc.1];omega)];exact e1,e2⟩
 |[],_::_,_,_,_,_,_,d,_=>by simp at d
 |_::_,[],_,_,_,_,_,d,_=>by simp at d
theorem l7{n b:Nat}:∀{parts:List (Nat×SV)}{d:List (Nat×Value)}{f L:Nat->List SV}{u:Array Value},aaM n b parts f=some L->mK ro own [.a n b f] u->
 parts.map (·.1)=d.map (·.1)->aQ ro own (parts.map (·.2)) (d.map (·.2))->∃o,Instr.fill (λi=>some (i*b,b)) u d=some o/\mK ro own [.a n b L] o
 |[],[],f,L,u,h,hc,_,_=>by simp[aaM]at h;subst h;exact⟨u,rfl,hc⟩
 |(i,x)::r,(N,v)::vr,f,L,u,h,hc,z,O=>by
  simp only[J8,Qw]at z;obtain⟨rfl,z⟩:=z;obtain⟨hx,O⟩:=O;simp only[aaM]at h;split at h
  case h_2=>cases h
  rename_i C R;split at h
  case isFalse=>cases h
  rename_i X;obtain⟨c,A⟩:=X;obtain⟨v1,v2⟩:=xT hx R;have B:u.size=n*b:=by rw[hc.1];simp[aa,ar.size]
  have aw:i*b+b<=n*b:=by
   have:(i+1)*b<=n*b:=Jl _ c;rw[Ji]at this;omega
  have D:v.cells.toList.length=b:=by rw[<-A];simpa using v1
  have key:∀g:Nat->List SV,(∀(t j:Nat)(p:SV),t<n->(g t)[j]?=some p->j<b->(t=i->C[j]?=some p\/∃y,p=dY true (C.getD j .any) y/\j<C.length)/\(t≠i->∃y,(f t)[j]?=some y/\(p=y\/∃x,p=dY false x y)))->
   mK ro own [.a n b g] (dw u (i*b) v.cells.toList):=by
   intro g F;refine⟨by rw[jn,B];simp[aa,ar.size],λk p Z=>?_⟩;have q:k<n*b:=by have:=cK Z;simpa[aa,ar.size]using this
   rw[cy q]at Z;have m:0<b:=by
    rcases Jw b with h0|h0
    . subst h0;simp at q
    . exact h0
   have ac:k/b*b+k%b=k:=by rw[Km];exact Q5 k b
   have G:k%b<b:=Ki _ m;have ad:k/b<n:=by rw[K9 m];exact q
   obtain⟨g1,g2⟩:=F (k/b) (k%b) p ad Z G;rw[jl _ _ _ _ (by rw[D,B];omega),D,GB]
   by_cases c:k/b=i
   . rw[c]at ac;rw[JB (by omega),show k-i*b=k%b from by omega];rcases g1 c with M|⟨y,rfl,hj⟩
     . exact v2 _ _ M
     . refine jv (λ_=>v2 _ _ ?_) (by simp);rw[J0,J4 hj];rfl
   . have H: ¬(i*b<=k/\k<i*b+b):=by
      rintro⟨q1,q2⟩;apply c;rw[Nat.div_eq_iff m];omega
     rw[JA H];obtain⟨y,hy,hh⟩:=g2 c;have J:=hc.2 k y (by rw[cy q];exact hy);rcases hh with rfl|⟨x,rfl⟩
     . exact J
     . exact jv (by simp) (λ_=>J)
  have al:mK ro own [.a n b (if n=1 then(λ_=>C)else λN=>af (decide (N=i)) C (f N))] (dw u (i*b) v.cells.toList):=by
   by_cases M:n=1
   . rw[JB M];refine key _ λt j p ht F hj=>⟨λ_=>.inl F,λH=>?_⟩
     omega
   . rw[JA M];refine key _ λt j p ht F hj=>?_
     obtain⟨x1,y1,K,aq,rfl⟩:=m8 F;refine⟨λe=>.inr ⟨y1,?_,(Jb.1 K).1⟩,λe=>⟨y1,aq,.inr ⟨x1,by simp[e]⟩⟩⟩;rw[J0,K];simp[e]
  obtain⟨o,e1,e2⟩:=l7 h al z O;exact⟨o,by rw[AR (off:=i*b) (n:=b) rfl (by rw[v1,A]) (by rw[B];omega)];exact e1,e2⟩
 |[],_::_,_,_,_,_,_,z,_=>by simp at z
 |_::_,[],_,_,_,_,_,z,_=>by simp at z
theorem AJ(h:bA E ro own s w a){b:Array (Nat×Operand)}{k:List SV->Tx}{j}(d:(jI (b.toList.map (·.2)) k).ok s j):
 ∃c,(k c).ok s j/\((b.toList.map (·.1)).zip c).map (·.1)=((b.map λ(i,x)=>(i,a.eval x)).toList).map (·.1)/\aQ ro own (((b.toList.map (·.1)).zip c).map (·.2)) (((b.map λ(i,x)=>(i,a.eval x)).toList).map (·.2)):=by
 obtain⟨c,m,d⟩:=ku h d;have e:=m.length;simp at e;refine⟨c,d,?_,?_⟩
 . rw[List.map_fst_zip (by simp[e])];simp[Xo]
 . rw[List.map_snd_zip (by simp[e])];simpa[Xo]using m
theorem UU(h:bA E ro own s w a){o:Oper}{T:TypeId}{c:Array (Nat×Operand)}(C:o.op=.build T c){ws}
 (b:(jI (c.toList.map (·.2)) λD=>CG P E.N o.dst T ((c.toList.map (·.1)).zip D)).ok s ws):fW E P o s w a ws:=by
 obtain⟨D,b,d,j⟩:=AJ h b;unfold CG at b;split at b
 case h_2=>exact b.elim
 rename_i l z H;obtain⟨k,F,G⟩:=nF (ro:=ro) (own:=own) H;split at b
 . rename_i M p u;split at b
   case isFalse=>exact b.elim
   rename_i q;split at b
   case h_2=>exact b.elim
   rename_i O y;obtain⟨m,x,r⟩:=wk u y ⟨F,G⟩ d j;refine aP h (v:=.agg m) ?_ (.agg _ _ _ r.1 r.2) b;unfold execOp;have J:=qM (P:=P) (w:=w) p.toList q;have K:(λi:Nat=>(p[i]?).map λ(f:Field)=>(f.offset,(cw P f.type).getD 0))=λi=>(p.map λ(f:Field)=>(f.offset,(cw P f.type).getD 0))[i]?:=by
    funext i;simp
   rw[K]at x;simp only[C,Instr.build,Sem.run_bind,k,Result.andThen_ok,run_underlying u,Array.mapM_eq_mapM_toList,Sem.run_map,J];rw[show(List.map (λf=>(f.offset,(cw P f.type).getD 0)) p.toList).toArray=p.map λf=>(f.offset,(cw P f.type).getD 0)from Array.ext' (by simp),x];rfl
 . rename_i n e R es f u;split at b
   case isFalse=>exact b.elim
   rename_i L;obtain⟨rfl,A⟩:=L;split at b
   case h_2=>exact b.elim
   rename_i X B;obtain⟨m,x,r⟩:=l7 B ⟨F,G⟩ d j;refine aP h (v:=.agg m) ?_ (.agg _ _ _ r.1 r.2) b;unfold execOp;simp only[C,Instr.build,Sem.run_bind,k,Result.andThen_ok,run_underlying u,aS A,x,Sem.run_pure]
 . exact b.elim
theorem gl{e:TypeId}{z:List SV}(h:gi P e=some z):∃b,(∀w:World,(zeroValue e).run P w=.ok b w)/\b.cells.size=z.length/\∀(k:Nat)(c:SV),z[k]?=some c->Rel ro own c (b.cells.getD k undef):=by
 unfold gi at h;split at h
 case h_2=>cases h
 rename_i l b d;have i:=jk h;obtain⟨j,m,o⟩:=nF (ro:=ro) (own:=own) d;subst i;exact⟨b,j,by rw[m,fY],λk c p=>o k c (by rw[lj];exact p)⟩
theorem Cg{z:List SV}{b:Array Value}{n c:Nat}(o:b.size=z.length)(i:z.length=c)(h:∀(k:Nat)(m:SV),z[k]?=some m->Rel ro own m (b.getD k undef)):
 mK ro own [.a n c λ_=>z] ((Array.range (n*c)).map (b[· %b.size]!)):=by
 refine⟨by simp[aa,ar.size],λk m p=>?_⟩;have j:k<n*c:=by have:=cK p;simpa[aa,ar.size]using this
 rw[cy j]at p;have d:0<c:=by
  rcases Jw c with q|q
  . subst q;simp at j
  . exact q
 have:=h _ m p;have u:k%c<b.size:=by rw[o,i];exact Ki _ d
 have e:((Array.range (n*c)).map (b[· %b.size]!)).getD k undef=b.getD (k%c) undef:=by
  have r:k%b.size<b.size:=by rw[o,i];exact Ki _ d
  simp only[Jf,Array.getElem?_map,Array.getElem?_range,j,JE,K4,K5];rw[getElem!_pos b _ r,getElem?_pos b _ u];simp only[K5]
  congr 1
  rw[o,i]
 rw[e];exact this
theorem za(h:bA E ro own s w a){o:Oper}{j:Nat}{T:TypeId}{b:Nat}{c:Array (Nat×Operand)}(K:o.op=.buildSlice T b c){ws}
 (d:(jI (c.toList.map (·.2)) λF=>dS P E.N j o.dst T b ((c.toList.map (·.1)).zip F)).ok s ws):fW E P o s w a ws:=by
 obtain⟨F,d,m,p⟩:=AJ h d;unfold dS at d;split at d
 case h_2=>exact d.elim
 rename_i e L;split at d
 case h_2=>exact d.elim
 rename_i z es M x;split at d
 case isFalse=>exact d.elim
 rename_i O;obtain⟨y,A,R⟩:=O;split at d
 case h_2=>exact d.elim
 rename_i f X;obtain⟨G,Z,z2,z3⟩:=gl (ro:=ro) (own:=own) M;have B:mK ro own [.a b es λ_=>z] ((Array.range (b*es)).map ((if b*es=0 then #[]else G.cells)[· %(if b*es=0 then #[]else G.cells).size]!)):=by
  by_cases i:b*es=0
  . refine⟨by simp[aa,ar.size],λk sv d=>?_⟩;have:=cK d;simp[aa,ar.size]at this;omega
  . simp only[i,JF];exact Cg z2 y z3
 obtain⟨q,u,C⟩:=l7 X B m p;have D:q.size=b*es:=by rw[C.1];simp[aa,ar.size]
 refine qU h (cap:=b) (v:=.slice (some ⟨w.heap.size,0,none⟩) b b) (w':=w.alloc (.cells q e)) (lo:=0) (hi:=0) rfl rfl rfl rfl ?_ (λ_=>⟨b,f,rfl,J1 _,D⟩) (by simp) (by rw[C.1];exact J1 _) (.inl (J1 _)) ?_ C.2 ?_ d
 . unfold execOp;simp only[K,Instr.buildSlice,Sem.run_bind,run_underlying L,Result.andThen_ok,aS x];rw[JA (by omega)]
   by_cases i:b*es=0
   . simp only[i,JE]at u;simp only[i,JE,Sem.run_pure,Result.andThen_ok,u,newRow,Sem.run_bind,run_newObj];rfl
   . simp only[i,JF]at u;simp only[i,JF,Sem.run_bind,Z,Result.andThen_ok,Sem.run_pure,u,newRow,run_newObj];rfl
 . rintro t H;simp at H;refine⟨rfl,rfl,H,?_⟩;have:b<=b*es:=Nat.le_mul_of_pos_right _ A;unfold maxLen;omega
 . intro r k1 J k3 k4;have:=Rel.sl (ro:=ro) r j 0 0 b w.heap.size k1 (by rw[J];omega);rw[J]at this;simpa using this
theorem Al(h:bA E ro own s w a){o:Oper}{j:Nat}{T:TypeId}{x y:Operand}(J:o.op=.makeSlice T x y){ws}(b:(fR x λx=>fR y λy=>pt P E.N j o.dst T x y).ok s ws):fW E P o s w a ws:=by
 obtain⟨x',K,k⟩:=aZ h b;clear b;obtain⟨y',L,b⟩:=aZ h k;clear k;unfold pt at b;split at b
 case h_2=>exact b.elim
 rename_i e n n' M;split at b
 case h_2=>exact b.elim
 rename_i z i O hi;split at b
 case isFalse=>exact b.elim
 rename_i R;obtain⟨r,X⟩:=R;obtain⟨⟨rfl,u,Z,A⟩,b⟩:=b;obtain⟨d,z1,z2,z3⟩:=gl (ro:=ro) (own:=own) O;obtain⟨m,rfl⟩:=Q8 u;have hm:(m:Int).toNat=m:=by simp
 simp only[hm]at b;have B:=Cg (ro:=ro) (own:=own) (n:=m) z2 r z3;have C:i.zero=some d:=by
  have:=z1 w;simp only[zeroValue,Sem.run_bind,qF hi,Result.andThen_ok]at this;cases F:i.zero with
  |none=>rw[F]at this;simp at this
  |some q=>rw[F]at this;simp at this;rw[this]
 have c:=run_make (P:=P) w T e i d M hi C .i64 .i64 m m (by omega) (by omega) (by simpa using A) (by omega);have D:madeCells d.cells (m*i.size)=(Array.range (m*i.size)).map (d.cells[· %d.cells.size]!):=rfl;refine qU h (cap:=m) (v:=.slice (some ⟨w.heap.size,0,none⟩) m m) (w':=w.alloc (.cells (madeCells d.cells (m*i.size)) e)) (lo:=0) (hi:=0) rfl rfl rfl rfl ?_ (λ_=>⟨m,_,rfl,J1 _,by simp[madeCells]⟩) (by simp) (by simp[madeCells,aa,ar.size]) (.inl (J1 _)) ?_ (by rw[D];exact B.2) ?_ b
 . unfold execOp;rw[J];simp only[aK K,aK L,Sem.run_bind];simp only[K7]at c;rw[c];rfl
 . rintro t G;simp at G;exact⟨rfl,rfl,G,by unfold maxLen;omega⟩
 . intro p k1 H k3 k4;have:=Rel.sl (ro:=ro) p j 0 0 m w.heap.size k1 (by rw[H];omega);rw[H]at this;simpa using this
end
end Go.Sx
namespace Go.Sx
open Go Go.RowKit
variable [bW]
section
variable {E : Env} {P : Program} {ro : RO} {own : Own} {s : St} {w : World} {a : Act}
theorem ud(h:bA E ro own s w a){o:Option Operand}{k:Option SV->Tx}{ws}(b:(kf.rdOpt o k).ok s ws):∃x,(x=none↔o=none)/\(∀y c,x=some y->o=some c->Rel ro own y (a.eval c))/\(k x).ok s ws:=by
 cases o with
 |none=>exact⟨none,by simp,by simp,b⟩
 |some o=>
  obtain⟨x,i,b⟩:=aZ h b;exact⟨some x,by simp,λy c d e=>by simp at d e;subst d;subst e;exact i,b⟩
theorem run_sliceBound{x:Value}{y:Nat}{code:BoundsCode}{k:IntKind}{i:Int}(b:x=.int k i)(c:0<=i)(d:i<=(y:Int)):(Instr.sliceBound x y code).run P w=.ok i.toNat w:=by
 simp[Instr.sliceBound,b,asIntOf,c,d]
theorem oQ{q:Bool}{d i:Nat}{r u:Option SV}{l h:Int}{j m:Option Value}(b:Dc r=some l)(c:CW d u=some h)(A:∀y,r=some y->∃v,j=some v/\Rel ro own y v)(o:r=none->j=none)
 (B:∀y,u=some y->∃v,m=some v/\Rel ro own y v) (p:u=none->m=none) (C:0<=l) (G:l<=h) (M:h<=(d:Int)) (D:d<=i):
 (Instr.sliceBounds q d i j m none).run P w=.ok (l.toNat,h.toNat,i) w:=by
 have H:(m=none/\h=(d:Int))\/∃k,m=some (.int k h):=by
  unfold CW at c;split at c
  . simp at c;exact .inl ⟨p rfl,c.symm⟩
  . simp at c;subst c;obtain⟨v,e,z⟩:=B _ rfl;exact .inr ⟨_,by rw[e,aK z]⟩
  . cases c
 have J:(j=none/\l=0)\/∃k,j=some (.int k l):=by
  unfold Dc at b;split at b
  . simp at b;exact .inl ⟨o rfl,b.symm⟩
  . simp at b;subst b;obtain⟨v,e,z⟩:=A _ rfl;exact .inr ⟨_,by rw[e,aK z]⟩
  . cases b
 clear A o B p b c;rcases H with⟨rfl,rfl⟩|⟨k,rfl⟩<;>rcases J with⟨rfl,rfl⟩|⟨F,rfl⟩
 . simp[Instr.sliceBounds]
 . have:=run_sliceBound (P:=P) (w:=w) (x:=.int F l) (y:=d) (code:=.sliceB) rfl C G;simp[Instr.sliceBounds,this]
 . have:=λcode=>run_sliceBound (P:=P) (w:=w) (x:=.int k h) (y:=i) (code:=code) rfl (by omega) (by omega)
   simp[Instr.sliceBounds,this]
 . have K:=λcode=>run_sliceBound (P:=P) (w:=w) (x:=.int k h) (y:=i) (code:=code) rfl (by omega) (by omega)
   have L:=run_sliceBound (P:=P) (w:=w) (x:=.int F l) (y:=h.toNat) (code:=.sliceB) rfl C (by omega);simp[Instr.sliceBounds,K,L]
theorem Lh(h:bA E ro own s w a){o:Oper}{T:TypeId}{x:Operand}{X M:Option Operand}(ho:o.op=.slice T x X M none){ws}
 (c:(fR x λx=>kf.rdOpt X λX=>kf.rdOpt M λM=>Cv P E.N o.dst T x X M).ok s ws):fW E P o s w a ws:=by
 obtain⟨x',hx,ac⟩:=aZ h c;clear c;obtain⟨bd,ad,be,al⟩:=ud h ac;clear ac;obtain⟨bf,aq,bh,c⟩:=ud h al;clear al;have bounds:∀{isS:Bool}{len cap:Nat}{l u:Int},Dc bd=some l->CW len bf=some u->0<=l->l<=u->u<=(len:Int)->len<=cap->(Instr.sliceBounds isS len cap (X.map a.eval) (M.map a.eval) none).run P w=.ok (l.toNat,u.toNat,cap) w:=by
  intro isS len cap l u B C F O Z h4;refine oQ (ro:=ro) (own:=own) B C (λy hy=>?_) (λe=>by rw[ad.1 e];rfl) (λy hy=>?_) (λe=>by rw[aq.1 e];rfl) F O Z h4
  . cases X with
    |none=>rw[ad.2 rfl]at hy;cases hy
    |some o'=>exact⟨_,rfl,be y o' hy rfl⟩
  . cases M with
    |none=>rw[aq.2 rfl]at hy;cases hy
    |some o'=>exact⟨_,rfl,bh y o' hy rfl⟩
 have go:∀{v:Value}{z:SV},(Instr.sliceAt T (a.eval x) (X.map a.eval) (M.map a.eval) none).run P w=.ok v w->Rel ro own z v->(bm E.N o.dst z).ok s ws->fW E P o s w a ws:=by
  intro v z aw hr c;refine aP h (v:=v) ?_ hr c;unfold execOp;simp[ho,aw]
 unfold Cv at c;split at c
 . rename_i st K;split at c
   case h_2=>exact c.elim
   rename_i l u B C;obtain⟨⟨F,O,Z⟩,c⟩:=c;have q:=dR hx;have D:=bounds (isS:=false) (cap:=st.length) B C F O Z (J1 _);have bi:(⟨st.toArray⟩:ByteArray).size=st.length:=rfl;refine go (v:=.string ⟨((st.take u.toNat).drop l.toNat).toArray⟩) ?_ (.str _ _) c;have hex:(⟨st.toArray⟩:ByteArray).extract l.toNat u.toNat=⟨((st.take u.toNat).drop l.toNat).toArray⟩:=by
    apply ByteArray.ext;rw[ByteArray.data_extract];apply Array.ext';simp[List.drop_take]
   rw[q];simp[Instr.sliceAt,run_underlying K,Instr.slice,bi,D,hex]
 . rename_i e es len f K;split at c
   case h_2=>exact c.elim
   rename_i l u B C;split at c
   case isFalse=>exact c.elim
   rename_i p;obtain⟨⟨F,O,Z⟩,c⟩:=c;rcases dE hx with⟨R,A,cap,q⟩|⟨b,k0,cap,vs,q,r,R,hm,hh⟩
   . have G:u=0:=by omega
     have H:l=0:=by omega
     subst G;subst H;have D:=bounds (isS:=true) (len:=0) (cap:=cap) B (by rw[<-R];exact C) (by omega) (by omega) (by omega) (by omega);rw[q]at go;refine go (v:=.slice A 0 cap) ?_ (.fe _ _ _ _ _ _ (by simp)) c;simp only[Instr.sliceAt,Sem.run_bind,run_underlying K,Result.andThen_ok,Instr.slice,D,aS p,Sem.run_pure]
     congr 2
     split
     . rfl
     . cases A<;>simp[Addr.add]
   . have D:=bounds (isS:=true) (cap:=cap) B C F O Z r;rw[q]at go;refine go (v:=.slice (if cap=l.toNat then some ⟨b,k0,none⟩else some ⟨b,k0+l.toNat*es,none⟩) (u.toNat-l.toNat) (cap-l.toNat)) ?_ ?_ c
     . simp only[Instr.sliceAt,Sem.run_bind,run_underlying K,Result.andThen_ok,Instr.slice,D,aS p,Sem.run_pure,K4,dU]
     . have ax:(u-l).toNat=u.toNat-l.toNat:=by omega
       rw[ax]
       by_cases hc:cap=l.toNat
       . rw[JB hc];have:u.toNat-l.toNat=0:=by omega
         rw[this];exact .fe _ _ _ _ _ _ rfl
       . rw[JA hc];refine .bF _ _ _ _ b (k0+l.toNat*es) (cap-l.toNat) (λk=>vs (l.toNat*es+k)) (by omega) (λi M=>R _ (by omega)) (λk c=>?_) (λi j sv M hj=>?_)
         . rw[Kt];refine hm _ ?_;have h5:(l.toNat+(u.toNat-l.toNat))*es<=len*es:=Jl _ (by omega);rw[Ji]at h5;omega
         . have:=hh (l.toNat+i) j sv (by omega) hj;rw[Ji]at this;rw[<-Nat.add_assoc];exact this
 . rename_i e id L off len K;split at c
   case h_2=>exact c.elim
   rename_i l u B C;obtain⟨m,hm,c⟩:=fG c;have he:=h.gK id m hm;split at c
   case isFalse=>exact c.elim
   rename_i hc;obtain⟨ay,p⟩:=hc;split at c
   . rename_i y _ _;obtain⟨⟨F,O⟩,J⟩:=c;have H:l=0:=by simp[Dc]at B;omega
     subst H;rcases fH hx with⟨b,D,r,q⟩|⟨D,R,az,q⟩
     . have d:=bounds (isS:=true) (cap:=own.cap id L-off) B C (by omega) F O (by omega);rw[q]at go;refine go (v:=.slice (some ⟨b,off*own.es id 0,none⟩) u.toNat (own.cap id L-off)) ?_ (.sl _ _ _ _ _ _ D (by omega)) J;simp[Instr.sliceAt,run_underlying K,Instr.slice,d,aS p,dU]
     . subst R;have G:u=0:=by omega
       subst G;have d:=bounds (isS:=true) (len:=0) (cap:=0) B C (by omega) (by omega) (by simp) (by omega);rw[q]at go;refine go (v:=.slice none 0 0) ?_ (.Es _ _ _ _ _ D rfl az) J;simp[Instr.sliceAt,run_underlying K,Instr.slice,d,aS p]
   . rename_i y _ _;simp only[Dx,Tx.ok]at c;split at c
     case h_2=>exact c.elim
     split at c
     case h_2=>exact c.elim
     split at c
     case isFalse=>exact c.elim
     rename_i bp f0 _;obtain⟨F,J⟩:=c;have G:u=(len:Int):=by simp[CW]at C;omega
     subst G;subst F;rcases fH hx with⟨b,D,r,q⟩|⟨D,R,az,q⟩
     . have d:=bounds (isS:=true) (cap:=own.cap id L-off) B C (by omega) (by omega) (by omega) (by omega);rw[q]at go;refine go (v:=.slice (if own.cap id L-off=len then some ⟨b,off*own.es id 0,none⟩else some ⟨b,off*own.es id 0+len*m.es,none⟩) 0 (own.cap id L-off-len)) ?_ (.fe _ _ _ _ _ _ rfl) J;simp[Instr.sliceAt,run_underlying K,Instr.slice,d,aS p,dU]
     . subst R;have d:=bounds (isS:=true) (len:=0) (cap:=0) B C (by omega) (by omega) (by simp) (by omega);rw[q]at go;refine go (v:=.slice none 0 0) ?_ (.fe _ _ _ _ _ _ rfl) J;simp[Instr.sliceAt,run_underlying K,Instr.slice,d,aS p]
   obtain⟨⟨F,O,Z⟩,c⟩:=c;rcases fH hx with⟨b,D,r,q⟩|⟨_,R,_,_⟩
   case inr=>omega
   obtain⟨n,f,bb,_⟩:=he.row ay;have e0:own.es id 0=m.es:=by rw[he.es 0 (.a n m.es f) (by rw[bb];rfl)];rfl
   have d:=bounds (isS:=true) (cap:=own.cap id L-off) B C F (by omega) Z (by omega);rw[q]at go;refine go (v:=.slice (some ⟨b,off*own.es id 0+l.toNat*m.es,none⟩) (u.toNat-l.toNat) (own.cap id L-off-l.toNat)) ?_ ?_ c
   . simp only[Instr.sliceAt,Sem.run_bind,run_underlying K,Result.andThen_ok,Instr.slice,d,aS p,Sem.run_pure,K4,dU];rw[JA (by omega)]
   . have:=Rel.sl (ro:=ro) own id L (off+l.toNat) (u-l).toNat b D (by omega);rw[e0,Ji]at this;rw[e0];have e3:(u-l).toNat=u.toNat-l.toNat:=by omega
     have e4:own.cap id L-off-l.toNat=own.cap id L-(off+l.toNat):=by omega
     rw[e3]at this⊢;rw[e4];exact this
 . exact c.elim
theorem run_len{T:TypeId}{x:SV}{v:Value}{n:Int}(h:Rel ro own x v){N:Nat}{j:Option Tmp}{ws}(d:(Oh P N j T x).ok s ws):∃n:Int,(Builtin.len_ #[T] 0 #[v]).run P w=.ok (.int .i64 n) w/\(bm N j (.int .i64 n)).ok s ws:=by
 unfold Oh at d;split at d
 . rename_i m c;refine⟨_,?_,d⟩;rw[dR h];simp[Builtin.len_,run_underlying c,goInt];rfl
 . rename_i o e c;refine⟨_,?_,d⟩;cases v<;>simp[Builtin.len_,run_underlying c,goInt]
 . rename_i e es len f c;refine⟨_,?_,d⟩;rcases dE h with⟨k,A,cap,i⟩|⟨b,p,cap,q,i,_⟩
   . subst k;rw[i];simp[Builtin.len_,run_underlying c,goInt]
   . rw[i];simp[Builtin.len_,run_underlying c,goInt]
 . rename_i e id r off len c;refine⟨_,?_,d⟩;rcases fH h with⟨b,_,_,i⟩|⟨_,k,_,i⟩
   . rw[i];simp[Builtin.len_,run_underlying c,goInt]
   . subst k;rw[i];simp[Builtin.len_,run_underlying c,goInt]
 . rename_i e c;refine⟨_,?_,d⟩;rw[gh h];simp[Builtin.len_,run_underlying c,goInt]
 . exact d.elim
theorem DY{len b:Nat}{h:Int}{k k':IntKind}(c:0<=h)(d:h<=(b:Int)):(Instr.sliceBounds true len b none (some (.int k h)) (some (.int k' h))).run P w=.ok (0,h.toNat,h.toNat) w:=by
 have e:=run_sliceBound (P:=P) (w:=w) (x:=.int k' h) (y:=b) (code:=.slice3Acap) rfl c d;have i:=run_sliceBound (P:=P) (w:=w) (x:=.int k h) (y:=h.toNat) (code:=.slice3B) rfl c (by omega);simp[Instr.sliceBounds,e,i]
theorem GI(h:bA E ro own s w a){o:Oper}{T:TypeId}{x p mx:Operand}(H:o.op=.slice T x none (some p) (some mx)){ws}
 (c:(fR x λx=>fR p λp=>fR mx λmx=>yP P E.N o.dst T x p mx).ok s ws):fW E P o s w a ws:=by
 obtain⟨x',J,q⟩:=aZ h c;clear c;obtain⟨K,d,r⟩:=aZ h q;clear q;obtain⟨L,m,c⟩:=aZ h r;clear r;unfold yP at c;split at c
 case h_2=>exact c.elim
 rename_i e es len f k u D m' hu;split at c
 case isFalse=>exact c.elim
 rename_i z;obtain⟨⟨rfl,M,h1⟩,c⟩:=c;have d:=aK d;have m:=aK m;have run:∀{A:Option Addr}{n cap:Nat},a.eval x=.slice A n cap->u<=(cap:Int)->(execOp a.eval o).run P w=.ok (.value (.slice A u.toNat u.toNat)) w:=by
  intro A n cap y B;have O:=DY (P:=P) (w:=w) (len:=n) (k:=k) (k':=D) M B;unfold execOp;simp[H,Instr.sliceAt,run_underlying hu,Instr.slice,y,d,m,O,aS z];intro R;cases A<;>simp[Addr.add]
 rcases dE J with⟨F,A,cap,y⟩|⟨b,X,cap,Z,y,G,F,hm,hh⟩
 . have C:u=0:=by omega
   subst C;exact aP h (run y (by omega)) (.fe _ _ _ _ _ _ rfl) c
 . refine aP h (run y (by omega)) (.bF _ _ _ _ b X _ Z (J1 _) (λi p=>F i (by omega)) (λk c=>hm k ?_) λi j sv p=>hh i j sv (by omega)) c;have:=Jl es (show u.toNat<=len by omega);omega
end
end Go.Sx
namespace Go.Sx
open Go Go.RowKit
variable [bW]
section
variable {E : Env} {P : Program} {ro : RO} {own : Own} {s : St} {w : World} {a : Act}
theorem bA.grow(h:bA E ro own s w a){w':World}{ob:Option Nat}(hg:w.grownBy w' ob){id n es cap:Nat}{f:Nat->List SV}{e:TypeId}(C ns:Nat)(bp:ns=1)
 (ac:∀b,ob=some b->∃m,s (.mt id)=.m (some m)/\m.zW=false/\own.env id m.aD=some (some b))
 (ad:∀H,C<=H->own.env id H=none)
 (st aq:Nat->Nat) (ay:∀H x q,own.env id H=some x->st q=own.st id q/\aq q=own.es id q) (bb:st 0=0) (M:aq 0=es)
 {sh:List (Option (Nat×Nat))} {blk:Option Nat} (bd:blk=none->n=0)
 (N:∀b,blk=some b->E.B<=b/\(some b=ob\/b=w.heap.size)/\n<=cap/\cap<=maxLen/\∃cs,w'.heap[b]?=some (.cells cs e (0,0))/\cs.size=cap*es/\(∀c:Own,own.le c->∀k sv,flat [.a n es f] k=some sv->Rel ro c sv (cs.getD k undef))):
 ∃c,own.le c/\c.env id C=some blk/\c.cap id C=cap/\c.es id 0=es/\
  bA E ro c (s.apply [(.mt id,.m (some ⟨C,false,true,some e,ns,es,sh⟩)),(.sg id 0,.s (.a n es f))]) w' a:=by
 subst bp
 let c:Own:={env:=λi v=>if i=id/\v=C then some blk else own.env i v,cap:=λi v=>if i=id/\v=C then cap else own.cap i v,st:=λi q=>if i=id then st q else own.st i q,es:=λi q=>if i=id then aq q else own.es i q}
 have O:∀i v x,own.env i v=some x-> ¬(i=id/\v=C):=by
  rintro i v x y ⟨rfl,rfl⟩;rw[ad v (J1 _)]at y;cases y
 have K:own.le c:=by
  refine⟨λi v x y=>?_,λi v x y=>?_,λi v x q y=>?_,λi v x q y=>?_⟩
  . simp only[c,O i v x y,JF,y]
  . simp only[c,O i v x y,JF]
  . by_cases d:i=id
    . subst d;simp only[c,JE];exact(ay v x q y).1
    . simp only[c,d,JF]
  . by_cases d:i=id
    . subst d;simp only[c,JE];exact(ay v x q y).2
    . simp only[c,d,JF]
 have be:∀i m b,s (.mt i)=.m (some m)->m.zW=false->own.env i m.aD=some (some b)->b<w.heap.size:=by
  intro i m b p bf r;obtain⟨aw,e',ax,u,hh,_⟩:=((h.gK i m p).live b r bf).body;exact(K3.1 hh).1
 have bh:∀b o v,ro b o=some v->b<w.heap.size/\some b≠ob:=by
  intro b o v hv;refine⟨block_lt_of_cell (h.cJ _ _ _ hv).1,λR=>?_⟩;obtain⟨m,p,D,r⟩:=ac b R.symm;have:=((h.gK id m p).live b r D).apart o;rw[hv]at this;cases this
 have J:∀i m b,i≠id->s (.mt i)=.m (some m)->m.zW=false->own.env i m.aD=some (some b)->w'.heap[b]?=w.heap[b]?/\some b≠ob:=by
  intro i m b d p D r;have O:some b≠ob:=by
   intro R;obtain⟨m',z,L,A⟩:=ac b R.symm;exact d (h.inj i id m m' b p z D L r A)
  exact⟨hg.block b (be i m b p D r) O,O⟩
 have G:∀i,i≠id->(s.apply [(.mt id,.m (some ⟨C,false,true,some e,1,es,sh⟩)),(.sg id 0,.s (.a n es f))]) (.mt i)=s (.mt i):=by
  intro i d;simp only[St.apply,St.put];rw[JA (by simp),JA (by simpa using d)]
 have X:(s.apply [(.mt id,.m (some ⟨C,false,true,some e,1,es,sh⟩)),(.sg id 0,.s (.a n es f))]) (.mt id)=.m (some ⟨C,false,true,some e,1,es,sh⟩):=by
  simp[St.apply,St.put]
 have bt:∀i k,i≠id->(s.apply [(.mt id,.m (some ⟨C,false,true,some e,1,es,sh⟩)),(.sg id 0,.s (.a n es f))]).az i k=s.az i k:=by
  intro i k d;refine St.dc λq _=>?_
  simp only[St.apply,St.put];rw[JA (by simp[d]),JA (by simp)]
 have bv:(s.apply [(.mt id,.m (some ⟨C,false,true,some e,1,es,sh⟩)),(.sg id 0,.s (.a n es f))]).az id 1=[.a n es f]:=by
  simp[St.az,Q7,St.uC,St.apply,St.put]
 refine⟨c,K,by simp[c],by simp[c],by simp[c,M],?_⟩;refine {below:=?_,base:=Jn h.base hg.size,defs:=h.defs,size:=h.size,tm:=?_,cJ:=?_,uU:=h.uU,gK:=?_,fr:=?_,mY:=?_,inj:=?_,kk:=E.mono _ _ _ _ K (.refl _) h.kk,mp:=h.mp' (.refl _) K (λi m' F Z=>by
  by_cases d:i=id
  . subst d;rw[X]at F;simp only[Item.m.injEq,J3]at F;subst F;simp[cz]at Z
  . rw[G i d]at F;refine⟨F,λn' e' f' h3=>?_⟩;simp only[St.apply,St.put]at h3;rw[JA (by simp[d]),JA (by simp)]at h3;exact h3) (λb o _ bz h5=>by
    rw[hg.block b (K3.1 h5).1 λR=>?_]
    . exact h5
    . obtain⟨m',z,L,A⟩:=ac b R.symm;obtain⟨aw,e',ax,u,hh,_⟩:=((h.gK id m' z).live b A L).body;rw[hh]at h5;simp at h5;exact bz _ _ _ h5.symm)}
 . refine h.below.trans ⟨hg.os,hg.tape,hg.output,hg.size,λk hk=>hg.block k (by have:=h.base;omega) λR=>?_⟩;obtain⟨m,p,D,r⟩:=ac k R.symm;have:=((h.gK id m p).live k r D).low;omega
 . intro t sv ht;have R:(s.apply [(.mt id,.m (some ⟨C,false,true,some e,1,es,sh⟩)),(.sg id 0,.s (.a n es f))]) (.tm t)=s (.tm t):=by simp[St.apply,St.put]
   rw[R]at ht;exact(h.tm t sv ht).own K
 . intro b o v hv;obtain⟨F,Z⟩:=bh b o v hv;exact(h.cJ b o v hv).of_heap (hg.block b F Z)
 . intro i m p
   by_cases d:i=id
   . subst d;rw[X]at p;simp only[Item.m.injEq,J3]at p;subst p;rw[bv];refine {st:=?_,es:=?_,row:=λ_=>⟨n,f,rfl,?_⟩,plain:=λhr=>by simp at hr,there:=⟨blk,by simp[c]⟩,nil:=?_,live:=?_,dn:=λb _ D=>by cases D}
     . intro q hq;have:q=0:=by simp only at hq;omega
       subst this;simp[c,bb,aa]
     . intro q x y;cases q with
       |zero=>simp at y;subst y;simp[c,M,ar.es]
       |succ q=>simp at y
     . intro b r;simp only[c,and_self,JE,J3]at r;simpa[c]using (N b r).2.2.1
     . intro hn;simp only[c,and_self,JE,J3]at hn;rw[bd hn];exact⟨rfl,f,rfl⟩
     . intro b r _;simp only[c,and_self,JE,J3]at r;obtain⟨c1,c2,c3,c4,cs,c5,c6,c7⟩:=N b r;refine⟨c1,λo=>?_,cs,e,0,0,c5,.inl (J1 _),λt ht=>⟨rfl,rfl,by simpa using ht,by simpa[c]using c4⟩,?_,λk sv hk=>c7 c K k sv hk,λhr=>by simp at hr,λ_=>by simp[c,M,c6]⟩
       . cases hr:ro b o with
         |none=>rfl
         |some v=>
          obtain⟨F,Z⟩:=bh b o v hr;rcases c2 with c2|c2
          . exact absurd c2 Z
          . omega
       . simp only[aa,ar.size,c6,Jv];exact Jl _ c3
   . rw[G i d]at p;rw[bt i m.ns d];have he:=h.gK i m p;have e0:∀v,c.env i v=own.env i v:=λv=>by simp[c,d]
     have R:∀q,c.st i q=own.st i q:=λq=>by simp[c,d]
     have e2:∀q,c.es i q=own.es i q:=λq=>by simp[c,d]
     have e3:∀v,c.cap i v=own.cap i v:=λv=>by simp[c,d]
     obtain⟨x0,bF⟩:=he.there;refine {st:=λq hq=>by rw[R];exact he.st q hq,es:=λq x y=>by rw[e2];exact he.es q x y,row:=λhr=>?_,plain:=he.plain,there:=⟨x0,by rw[e0];exact bF⟩,nil:=λhn=>he.nil (by rw[<-e0];exact hn),live:=λb r D=>?_,dn:=λb r D=>he.dn b (by rw[<-e0];exact r) D}
     . obtain⟨n',f',hl,hn⟩:=he.row hr;exact⟨n',f',hl,λb r=>by rw[e3];exact hn b (by rw[<-e0];exact r)⟩
     . rw[e0]at r;have hl:=he.live b r D;obtain⟨aw,e',ax,u,hh,r1,r2,r3,r4,r5,r6⟩:=hl.body;exact⟨hl.low,hl.apart,aw,e',ax,u,by rw[(J i m b d p D r).1];exact hh,r1,(λt ht=>by rw[e3];exact r2 t ht),r3,λk sv hk=>(r4 k sv hk).own K,r5,λhr=>by rw[e3,e2];exact r6 hr⟩
 . intro i p v
   by_cases d:i=id
   . subst d;rw[X]at p;cases p
   . rw[G i d]at p;simp only[c,d,false_and,JF];exact h.fr i p v
 . intro i m p v hv
   by_cases d:i=id
   . subst d;rw[X]at p;simp only[Item.m.injEq,J3]at p;subst p;simp only at hv;simp only[c,JL,show v≠C from by omega,JF];exact ad v (by omega)
   . rw[G i d]at p;simp only[c,d,false_and,JF];exact h.mY i m p v hv
 . intro i i' m m' b p z D L r A;have al:∀m1,(s.apply [(.mt id,.m (some ⟨C,false,true,some e,1,es,sh⟩)),(.sg id 0,.s (.a n es f))]) (.mt id)=.m (some m1)->c.env id m1.aD=some (some b)->some b=ob\/b=w.heap.size:=by
    intro m1 F Z;rw[X]at F;simp only[Item.m.injEq,J3]at F;subst F;simp only[c,and_self,JE,J3]at Z;exact(N b Z).2.1
   have bi:∀j m1,j≠id->(s.apply [(.mt id,.m (some ⟨C,false,true,some e,1,es,sh⟩)),(.sg id 0,.s (.a n es f))]) (.mt j)=.m (some m1)->m1.zW=false->c.env j m1.aD=some (some b)->some b≠ob/\b<w.heap.size:=by
    intro j m1 hj F Z h3;rw[G j hj]at F;simp only[c,hj,false_and,JF]at h3;exact⟨(J j m1 b hj F Z h3).2,be j m1 b F Z h3⟩
   by_cases d:i=id
   . by_cases u:i'=id
     . rw[d,u]
     . subst d;obtain⟨q1,q2⟩:=bi i' m' u z L A;rcases al m p r with q|q
       . exact absurd q q1
       . omega
   . by_cases u:i'=id
     . subst u;obtain⟨q1,q2⟩:=bi i m d p D r;rcases al m' z A with q|q
       . exact absurd q q1
       . omega
     . rw[G i d]at p;rw[G i' u]at z;simp only[c,d,u,false_and,JF]at r A;exact h.inj i i' m m' b p z D L r A
theorem B5(h:bA E ro own s w a){r:Nat}{x:SV}{v:Value}{k:Nat->(Nat->List SV)->Tx}{X}(M:Rel ro own x v)(d:(xL r x k).ok s X):
 ∃n g,(k n g).ok s X/\((n=0/\∃A c,v=.slice A 0 c)\/∃b off c,v=.slice (some ⟨b,off,none⟩) n c/\∀i j,i<n->j<r->∃u,eb w b (off+(i*r+j)) u/\∀C,(g i)[j]?=some C->Rel ro own C u):=by
 unfold xL at d;split at d
 . exact⟨_,_,d,.inl ⟨rfl,_,_,gh M⟩⟩
 . rename_i q len f;split at d
   case isFalse=>exact d.elim
   rename_i e;subst e;refine⟨_,_,d,?_⟩;rcases dE M with⟨K,A,cap,z⟩|⟨b,k0,cap,vs,z,D,K,L,hh⟩
   . exact .inl ⟨K,A,cap,z⟩
   . refine .inr ⟨b,k0,cap,z,λi j N Z=>⟨vs (i*q+j),?_,λC O=>(hh i j C N O).own (Own.empty_le _)⟩⟩;have:(i+1)*q<=len*q:=Jl _ N;rw[Ji]at this;exact h.cJ _ _ _ (L _ (by omega))
 . rename_i id aD off len;obtain⟨m,L,d⟩:=fG d;have he:=h.gK id m L;split at d
   case isFalse=>exact d.elim
   rename_i hc;obtain⟨F,G,ac⟩:=hc;obtain⟨y,hy,d⟩:=lf d;split at d
   case h_2=>exact d.elim
   rename_i n q f;split at d
   case isFalse=>exact d.elim
   rename_i p;obtain⟨ad,d⟩:=d;refine⟨_,_,d,?_⟩;rcases fH M with⟨b,hb,D,z⟩|⟨_,K,_,z⟩
   . right;obtain⟨n0,f0,H,_⟩:=he.row F;have R:m.ns=1:=by
      have:=St.dX s id m.ns;rw[H]at this;simpa using this.symm
     have o:s.az id m.ns=[.a n q f]:=by
      rw[R];simp[St.az,Q7,hy]
     have J:own.es id 0=r:=by rw[he.es 0 (.a n q f) (by rw[o];rfl)];exact p
     refine⟨b,off*own.es id 0,_,z,λi j N Z=>?_⟩;rw[<-G]at hb;have B:(off+i)*r+j<n*r:=by
      have:(off+i+1)*r<=n*r:=Jl _ (by omega);rw[Ji]at this;omega
     obtain⟨u,hu,hr⟩:=h.cellH L hb (k:=(off+i)*r+j) (by rw[o];simp[aa,ar.size,p];exact B);refine⟨u,?_,λC O=>hr C ?_⟩
     . rw[J,<-Nat.add_assoc,<-Nat.add_mul];exact hu
     . rw[o,cy (by rw[p];exact B)];have:=lM (f:=f) (n:=n) (i:=off+i) (by omega) Z;simp only[ar.at,B,JE]at this;rw[p,this];exact O
   . exact .inl ⟨K,none,0,by rw[z]⟩
 . exact d.elim
theorem pJ(h:bA E ro own s w a){d:Nat}{x:SV}{v:Value}{k:Nat->(Nat->List SV)->Tx}{e}(o:Rel ro own x v)(p:(xL d x k).ok s e):
 ∃n g,(k n g).ok s e/\((n=0/\∃A c,v=.slice A 0 c)\/∃b off c,v=.slice (some ⟨b,off,none⟩) n c/\∀i j,i<n->j<d->∃u,w.cell? ⟨b,off+(i*d+j),none⟩=some u/\∀m,(g i)[j]?=some m->Rel ro own m u):=by
 obtain⟨n,g,q,r⟩:=B5 h o p;refine⟨n,g,q,r.imp id ?_⟩;rintro⟨b,off,c,y,z⟩;exact⟨b,off,c,y,λi j B C=>let⟨u,hu,D⟩:=z i j B C;⟨u,hu.1,D⟩⟩
end
end Go.Sx
namespace Go.Sx
open Go Go.RowKit
variable [bW]
structure cS (P : Program) (f : Nat) (c : bB) : Prop where
 fn : ∃ fn, P.funcs[f]? = some fn /\ fn.body.isSome = true /\ (fn.name == "runtime.NumGoroutine") = false
 calls : ∀ args p r, c args = some (p, r) -> p -> ∀ (R : RO) (w : World) (vals : Array Value), (∀ b o v, R b o = some v -> eb w b o v) -> aQ R Own.empty args vals.toList ->
  Calls P f vals w fun e w' => ∃ v R', e = .returned v /\ Rel R' Own.empty r v /\ ga R R' /\ (∀ b o v, R' b o = some v -> eb w' b o v) /\ (∀ b o, b < w.heap.size -> R' b o = R b o) /\ Below w.heap.size w w'
structure VV (R : RO) (B : Nat) (w : World) (e es n : Nat) (f : Nat -> List SV) (v : Value) (b cap : Nat) (cs : Array Value) : Prop where
 val : v = .slice (some ⟨b, 0, none⟩) n cap
 low : B <= b
 apart : ∀ o, R b o = none
 cells : w.heap[b]? = some (.cells cs e (0, 0))
 capm : cap <= maxLen
 size : cs.size = cap * es
 le : n <= cap
 rel : ∀ k sv, flat [.a n es f] k = some sv -> Rel R Own.empty sv (cs.getD k undef)
def BI(R:RO)(B:Nat)(w:World)(e c n:Nat)(f:Nat->List SV)(v:Value):Prop:=(v=.slice none 0 0/\n=0)\/∃b cap d,VV R B w e c n f v b cap d
def uc(R:RO)(B:Nat)(w:World)(r:SV)(v:Value):Prop:=match r with
 |.Gl e es n f=>BI R B w e es n f v
 |.df (.Gl e es n f::rs)=>∃v0 b,v=.tuple (v0::b).toArray/\BI R B w e es n f v0/\aQ R Own.empty rs b
 |r=>Rel R Own.empty r v
def od:SV->Bool
 |.Gl _ _ _ _=>false
 |.df (.Gl _ _ _ _::_)=>false
 |_=>true
theorem uc.of{R:RO}{B:Nat}{w:World}{r:SV}{v:Value}(h:Rel R Own.empty r v):uc R B w r v:=by
 unfold uc;split
 . cases h
 . cases h with
   |df _ _ c d b=>have:=b 0 _ rfl;cases this
 . exact h
theorem uc.plain{R:RO}{B:Nat}{w:World}{r:SV}{v:Value}(h:uc R B w r v)(b:od r=true):Rel R Own.empty r v:=by
 unfold uc at h;split at h
 . simp[od]at b
 . simp[od]at b
 . exact h
structure nh (P : Program) (f : Nat) (c : bB) : Prop where
 fn : ∃ fn, P.funcs[f]? = some fn /\ fn.body.isSome = true /\ (fn.name == "runtime.NumGoroutine") = false
 calls : ∀ args p r, c args = some (p, r) -> p -> ∀ (R : RO) (w : World) (vals : Array Value), (∀ b o v, R b o = some v -> eb w b o v) -> aQ R Own.empty args vals.toList ->
  Calls P f vals w fun e w' => ∃ v R', e = .returned v /\ uc R' w.heap.size w' r v /\ ga R R' /\ (∀ b o v, R' b o = some v -> eb w' b o v) /\ (∀ b o, b < w.heap.size -> R' b o = R b o) /\ Below w.heap.size w w'
theorem cS.x{P:Program}{f:Nat}{c:bB}(h:cS P f c):nh P f c:=by
 refine⟨h.fn,λargs p r i j R w b k d=>(h.calls args p r i j R w b k d).mono ?_⟩;rintro e y ⟨v,m,o,q,u⟩;exact⟨v,m,o,.of q,u⟩
theorem nh.plain{P:Program}{f:Nat}{c:bB}(h:nh P f c)(k:∀args p r,c args=some (p,r)->od r=true):cS P f c:=by
 refine⟨h.fn,λargs p r j i R w b m d=>(h.calls args p r j i R w b m d).mono ?_⟩;rintro e y ⟨v,o,q,u,x⟩;exact⟨v,o,q,u.plain (k _ _ _ j),x⟩
section
variable {E : Env} {P : Program} {ro : RO} {own : Own} {s : St} {w : World} {a : Act}
theorem run_append_nil(b:Nat)(t o e:TypeId)(i:TypeInfo)(d:Nat)(k:P.underlying t=some (.slice e))(m:P.info? e=some i)
 (v:Value) (n:Nat) (p:List Value) (h:w.ownsRow b e d v n p) (c:Nat):(Builtin.append_ #[t,t] o #[v,.slice none 0 c]).run P w=.ok v w:=by
 rcases h.2 with⟨rfl,rfl⟩|⟨g,cap,q,rfl,_,_,j,_⟩
 . simp[Builtin.append_,run_underlying k,sizeOf,typeInfo,m,Builtin.lenOf,Builtin.firstCells]
 . simp[Builtin.append_,run_underlying k,sizeOf,typeInfo,m,Builtin.lenOf,Builtin.firstCells,j,storeCells]
theorem x9(d:Nat)(t ty e:TypeId)(i:TypeInfo)(z:Value)(H:P.underlying t=some (.slice e))(hi:P.info? e=some i)(hz:i.zero=some z)(O:z.cells.size=i.size)(B:0<i.size)
 (v:Value) (n:Nat) (R:List Value) (m:w.ownsRow d e i.size v n R) {u:Value} {k:Nat} {g:Nat->List SV}
 (X:(k=0/\∃A c,u=.slice A 0 c)\/∃b off c,u=.slice (some ⟨b,off,none⟩) k c/\∀q j,q<k->j<i.size->∃x,w.cell? ⟨b,off+(q*i.size+j),none⟩=some x/\∀C,(g q)[j]?=some C->Rel ro own C x)
 (D:∀j,j<k->mF i.size (g j)=true) (al:n+k<=140737488355328) (o:(n+k)*i.bytes<=140737488355328) (y:d<=w.heap.size):
 ∃F J news,(Builtin.append_ #[t,t] ty #[v,u]).run P w=.ok F J/\J.ownsRow d e i.size F (n+k) (R++news)/\w.grownBy J v.ownBlock/\(F.ownBlock=v.ownBlock\/F.ownBlock=some w.heap.size)/\
  news.length=k*i.size/\∀q j C,q<k->(g q)[j]?=some C->Rel ro own C (news.getD (q*i.size+j) undef):=by
 rcases X with⟨rfl,A,c,rfl⟩|⟨b,off,c,rfl,hc⟩
 . cases A with
   |none=>exact⟨v,w,[],run_append_nil d t ty e i i.size H hi v n R m c,by simpa using m,World.grownBy.refl w _,.inl rfl,by simp,by intro q j C Z;omega⟩
   |some ad=>
    obtain⟨F,J,K,h2,h3,_,h5⟩:=run_append_own_at (P:=P) w d t ty e i z i.size i.bytes H hi hz rfl rfl O B v n R m ad 0 c [] (by simp) (by simp) (by simp) (by unfold maxLen;omega) (by simpa using o) y;exact⟨F,J,[],K,by simpa using h2,h3,h5,by simp,by intro q j C Z;omega⟩
 . let news:List Value:=(List.range (k*i.size)).map λt=>(w.cell? ⟨b,off+t,none⟩).getD undef
   have p:∀t,t<k*i.size->t/i.size<k/\t%i.size<i.size/\t/i.size*i.size+t%i.size=t:=λt H=>
    ⟨by rw[K9 B];exact H,Ki _ B,by rw[Km];exact Q5 t i.size⟩
   have G:∀t u,news[t]?=some u->t<k*i.size/\w.cell? ⟨b,off+t,none⟩=some u:=by
    intro t u h;have r:=(Jb.1 h).1;simp only[news,Qj,Zd]at r;obtain⟨q1,q2,q3⟩:=p t r;obtain⟨x,L,_⟩:=hc _ _ q1 q2;rw[q3]at L;simp only[news,J5,Q9,r,K4,J3]at h;rw[L]at h;simp at h;subst h;exact⟨r,L⟩
   obtain⟨F,J,K,h2,h3,_,h5⟩:=run_append_own_at (P:=P) w d t ty e i z i.size i.bytes H hi hz rfl rfl O B v n R m ⟨b,off,none⟩ k c news (by simp[news]) (λj u X=>by rw[dU];exact(G j u X).2) (λu X=>by
    obtain⟨t,H⟩:=List.getElem?_of_mem X;obtain⟨r,L⟩:=G t u H;obtain⟨q1,q2,q3⟩:=p t r;obtain⟨x,M,K⟩:=hc _ _ q1 q2;rw[q3,L]at M;simp at M;subst M;have N:=D _ q1;simp only[mF,J2,JN,Js]at N;have hl:t%i.size<(g (t/i.size)).length:=by rw[N.1];exact q2
    exact gk (K _ (J4 hl)) (N.2 _ (Ku hl))) (by unfold maxLen;omega) o y
   refine⟨F,J,news,K,h2,h3,h5,by simp[news],λq j C Z hs=>?_⟩;have N:=D _ Z;simp only[mF,J2,JN]at N;have hj:j<i.size:=by rw[<-N.1];exact(Jb.1 hs).1
   obtain⟨x,L,K⟩:=hc q j Z hj;have ac:q*i.size+j<k*i.size:=by
    have:(q+1)*i.size<=k*i.size:=Jl _ Z;rw[Ji]at this;omega
   have:news.getD (q*i.size+j) undef=x:=by
    simp only[news,J0,J5,Q9,ac,K4,K5,L]
   rw[this];exact K C hs
theorem aT{o:Oper}{c:Call}{b:Builtin}(d:o.op=.call c)(e:c.callee=.builtin b):(execOp a.eval o).run P w=(builtin b c.argTypes o.type (c.args.map λ|.const _=>true|_=>false) (c.args.map a.eval)).run P w:=by
 unfold execOp;simp only[d,resolve,e,Sem.run_bind,Sem.run_pure,Result.andThen_ok,invoke];rfl
theorem rG{d:Nat}{e:TypeId}{b n:Nat}{v:Value}{i:List Value}(h:w.ownsRow d e b v n i):
 (v=.slice none 0 0/\n=0)\/∃g cap c,v=.slice (some ⟨g,0,none⟩) n cap/\d<=g/\n<=cap/\cap<=maxLen/\w.heap[g]?=some (.cells c e (0,0))/\c.size=cap*b/\∀k,k<n*b->c.getD k undef=i.getD k undef:=by
 rcases h.2 with j|⟨g,cap,c,m,o,p,q,r,u,x⟩
 . exact .inl j
 . refine .inr ⟨g,cap,c,m,o,q,r,p,u,λk y=>?_⟩;rw[<-x];simp[y]
def T9(P:Program)(E:Env)(ro:RO)(own:Own)(w:World)(h:Array TypeId)(p e:TypeId)(c b:Nat)(r:Value)(k:Nat)(g:Nat->List SV):Prop:=
 ∀(v:Value)(n:Nat)(m:List Value),w.ownsRow E.B e c v n m->n+k<=140737488355328->(n+k)*b<=140737488355328->
  ∃d i news,(Builtin.append_ h p #[v,r]).run P w=.ok d i/\i.ownsRow E.B e c d (n+k) (m++news)/\w.grownBy i v.ownBlock/\(d.ownBlock=v.ownBlock\/d.ownBlock=some w.heap.size)/\
   news.length=k*c/\∀q j o,q<k->(g q)[j]?=some o->Rel ro own o (news.getD (q*c+j) undef)
theorem Bf(h:bA E ro own s w a){o:Oper}{c:Call}{p d:Nat}{e:TypeId}{es M:Nat}{x:SV}{Z vy:Value}{k:Nat}{g:Nat->List SV}(ho:o.op=.call c)(hc:c.callee=.builtin .append)(O:c.args.map a.eval= #[Z,vy])
 (hx:Rel ro own x Z) (hd:o.dst=some d) (ac:d<E.N) (ad:0<es) (aw:T9 P E ro own w c.argTypes o.type e es M vy k g) {ws} (y:(tG p d e es M x k g).ok s ws):fW E P o s w a ws:=by
 unfold tG at y;split at y
 ·
  obtain⟨⟨bh,bb⟩,y⟩:=y;obtain⟨hf,y⟩:=kC y;have al:ws=lO p true (some e) es [.a k es g]++[(.tm d,.v (.sl p 0 0 k))]:=y.symm;subst al;have bi:=gh hx;have H:w.ownsRow E.B e es Z 0 []:=⟨by simp,.inl ⟨bi,rfl⟩⟩;obtain⟨v',w',news,R,h2,h3,J,h5,h6⟩:=aw Z 0 [] H (by omega) (by simpa using bb);have ch:Z.ownBlock=none:=by rw[bi];rfl
  rw[Jg,Jj]at h2;rw[ch]at h3 J;have cj:lO p true (some e) es [.a k es g]=[(.mt p,.m (some ⟨0,false,true,some e,1,es,[]⟩)),(.sg p 0,.s (.a k es g))]:=rfl;have cont:∀i:Own,own.le i->∀t C,flat [.a k es g] t=some C->Rel ro i C (news.getD t undef):=by
   intro i r t C D;have u:t<k*es:=by have:=cK D;simpa[aa,ar.size]using this
   rw[cy u]at D;have hq:t/es<k:=by rw[K9 ad];exact u
   have:=h6 _ _ C hq D;rw[show t/es*es+t%es=t from by rw[Km];exact Q5 t es]at this;exact this.own r
  intro Q;unfold Oper.wp;rw[aT ho hc,O];simp only[builtin,Sem.run_bind,R,Result.andThen_ok,Sem.run_pure];show dL E _ w' (a.put o.dst v')
  rw[hd,aM,cj,kA];rcases rG h2 with⟨z,hn⟩|⟨gb,cap,bd,z,g1,g2,g3,g4,g5,g6⟩
  . obtain⟨i,r,e1,e2,e3,hs⟩:=h.grow (w':=w') (ob:=none) h3 (id:=p) (n:=k) (es:=es) (cap:=0) (f:=g) (e:=e) 0 1 rfl (by simp) (λv _=>h.fr p hf v) (λ_=>0) (λ_=>es) (λv x q hx=>by rw[h.fr p hf v]at hx;cases hx) rfl rfl (sh:=[]) (blk:=none) (λ_=>hn) (by simp);exact⟨ro,i,hs.put ac (by rw[z];exact .Es _ _ _ _ _ e1 hn rfl)⟩
  . have cp:gb=w.heap.size:=by
     rcases J with J|J<;>rw[z]at J<;>simp[Value.ownBlock]at J
     exact J
    obtain⟨i,r,e1,e2,e3,hs⟩:=h.grow (w':=w') (ob:=none) h3 (id:=p) (n:=k) (es:=es) (cap:=cap) (f:=g) (e:=e) 0 1 rfl (by simp) (λv _=>h.fr p hf v) (λ_=>0) (λ_=>es) (λv x q hx=>by rw[h.fr p hf v]at hx;cases hx) rfl rfl (sh:=[]) (blk:=some gb) (by simp) (λb G=>by
     simp at G;subst G;refine⟨g1,.inr cp,g2,g3,bd,g4,g5,λi r t C D=>?_⟩;have u:t<k*es:=by have:=cK D;simpa[aa,ar.size]using this
     rw[g6 t u];exact cont i r t C D)
    refine⟨ro,i,hs.put ac ?_⟩;have:=Rel.sl (ro:=ro) i p 0 0 k gb e1 (by rw[e2];omega);rw[e2,Yy,Xf]at this;rw[z];exact this
 ·
  rename_i id aD off len;obtain⟨m,hm,y⟩:=fG y;have he:=h.gK id m hm;split at y
  case isFalse=>exact y.elim
  rename_i cH;obtain⟨ax,bp,dt,aq,bt⟩:=cH;obtain⟨y2,cJ,y⟩:=lf y;split at y
  case h_2=>exact y.elim
  rename_i n dy f;split at y
  case isFalse=>exact y.elim
  rename_i be;have be:=be.symm;subst be;obtain⟨⟨bv,bz,bh,bb⟩,y⟩:=y;subst bv;subst bz;subst bp;have al:=y.symm
  change ws=_ at al
  subst al;obtain⟨n0,f0,X,cL⟩:=he.row ax;have bf:m.ns=1:=by
   have:=St.dX s id m.ns;rw[X]at this;simpa using this.symm
  have F:s.az id m.ns=[.a len es f]:=by
   rw[bf];simp[St.az,Q7,cJ]
  have ay:own.st id 0=0:=by rw[he.st 0 (by omega)];rfl
  have K:own.es id 0=es:=by rw[he.es 0 (.a len es f) (by rw[F];rfl)];rfl
  have key:∃xs:List Value,w.ownsRow E.B e es Z len xs/\(∀t C,flat [.a len es f] t=some C->Rel ro own C (xs.getD t undef))/\(∀b,Z.ownBlock=some b->own.env id m.aD=some (some b)):=by
   rcases fH hx with⟨b,G,du,hv⟩|⟨G,hl,_,hv⟩
   . obtain⟨cs,e',lo,dT,hh,r1,r2,r3,r4,r5,r6⟩:=(he.live b G aq).body;obtain⟨rfl,rfl,rfl,q4⟩:=r2 e bt;rw[F]at r3 r4;simp only[aa,ar.size,Jv]at r3;have bF:=r6 ax;rw[K]at bF;rw[K,Yy,Xf]at hv;have cQ:len<=own.cap id m.aD:=by
      rw[X]at F;simp at F;rw[<-F.1];exact cL b G
     refine⟨cs.toList.take (len*es),⟨by simp;omega,.inr ⟨b,_,cs,hv,(he.live b G aq).low,hh,cQ,q4,bF,rfl⟩⟩,λt C D=>?_,λb' L=>?_⟩
     . have u:t<len*es:=by have:=cK D;simpa[aa,ar.size]using this
       have:=r4 t C D;simpa[J0,Q6,u,Jf]using this
     . rw[hv]at L;simp[Value.ownBlock]at L;subst L;exact G
   . refine⟨[],⟨by simp[hl],.inl ⟨hv,hl⟩⟩,λt C D=>?_,λb' L=>?_⟩
     . have:=cK D;simp[aa,ar.size,hl]at this
     . rw[hv]at L;simp[Value.ownBlock]at L
  obtain⟨xs,H,da,bL⟩:=key;obtain⟨v',w',news,R,h2,h3,J,h5,h6⟩:=aw Z len xs H bh bb;have cont:∀i:Own,own.le i->∀t C,flat [.a (len+k) es λj=>af (decide (j<len)) (f j) (g (j-len))] t=some C->Rel ro i C ((xs++news).getD t undef):=by
   intro i r t C D;have u:t<(len+k)*es:=by have:=cK D;simpa[aa,ar.size]using this
   rw[cy u]at D;obtain⟨x1,y1,db,dc,rfl⟩:=m8 D;have ea:t/es*es+t%es=t:=by rw[Km];exact Q5 t es
   have dx:t%es<es:=Ki _ ad;have df:xs.length=len*es:=H.1
   by_cases hq:t/es<len
   . have ca:t<len*es:=by rwa[<-Nat.div_lt_iff_lt_mul ad]
     refine jv (λ_=>?_) (λhf=>by simp[hq]at hf);rw[J0,Ka (by omega),<-List.getD_eq_getElem?_getD];exact(da t x1 (by rw[cy ca];exact db)).own r
   . have ca:len*es<=t:=by
      have:=Jl es (Nat.le_of_not_lt hq);omega
     refine jv (λhf=>by simp[hq]at hf) (λ_=>?_);rw[J0,Jy (by omega),<-List.getD_eq_getElem?_getD,df];have dn:t/es-len<k:=by
      have:t/es<len+k:=by rw[K9 ad];exact u
      omega
     have:=h6 _ _ y1 dn dc;have e1:(t/es-len)*es+t%es=t-len*es:=by
      have h8:len*es<=t/es*es:=Jl _ (Nat.le_of_not_lt hq);rw[Nat.sub_mul];generalize t/es*es=A at*;omega
     rw[e1]at this;exact this.own r
  intro Q;unfold Oper.wp;rw[aT ho hc,O];simp only[builtin,Sem.run_bind,R,Result.andThen_ok,Sem.run_pure];show dL E _ w' (a.put o.dst v')
  rw[hd];have ds:({m with aD:=m.aD+1}:lZ)=⟨m.aD+1,false,true,some e,m.ns,es,m.sh⟩:=by
   cases m;simp only at*;subst_vars;rfl
  rw[ds];show dL E ((s.apply [(.mt id,.m (some ⟨m.aD+1,false,true,some e,m.ns,es,m.sh⟩)),(.sg id 0,.s (.a (len+k) es λj=>af (decide (j<len)) (f j) (g (j-len))))]).put (.tm d) (.v (.sl id (m.aD+1) 0 (len+k)))) w' (a.put (some d) v')
  have cb:∀cc x q,own.env id cc=some x->own.st id q=own.st id q/\own.es id q=own.es id q:=λ_ _ _ _=>⟨rfl,rfl⟩
  rcases rG h2 with⟨z,hn⟩|⟨gb,cap,bd,z,g1,g2,g3,g4,g5,g6⟩
  . obtain⟨i,r,e1,e2,e3,hs⟩:=h.grow (w':=w') (ob:=Z.ownBlock) h3 (id:=id) (n:=len+k) (es:=es) (cap:=0) (f:=λj=>af (decide (j<len)) (f j) (g (j-len))) (e:=e) (m.aD+1) m.ns bf (λb G=>⟨m,hm,aq,bL b G⟩) (λv hv=>h.mY id m hm v (by omega)) (own.st id) (own.es id) cb ay K (sh:=m.sh) (blk:=none) (λ_=>hn) (by simp);exact⟨ro,i,hs.put ac (by rw[z];exact .Es _ _ _ _ _ e1 hn rfl)⟩
  . obtain⟨i,r,e1,e2,e3,hs⟩:=h.grow (w':=w') (ob:=Z.ownBlock) h3 (id:=id) (n:=len+k) (es:=es) (cap:=cap) (f:=λj=>af (decide (j<len)) (f j) (g (j-len))) (e:=e) (m.aD+1) m.ns bf (λb G=>⟨m,hm,aq,bL b G⟩) (λv hv=>h.mY id m hm v (by omega)) (own.st id) (own.es id) cb ay K (sh:=m.sh) (blk:=some gb) (by simp) (λb G=>by
     simp at G;subst G;refine⟨g1,?_,g2,g3,bd,g4,g5,λi r t C D=>?_⟩
     . rcases J with J|J
       . left;rw[<-J,z];rfl
       . right;rw[z]at J;simpa[Value.ownBlock]using J
     . have u:t<(len+k)*es:=by have:=cK D;simpa[aa,ar.size]using this
       rw[g6 t u];exact cont i r t C D)
    refine⟨ro,i,hs.put ac ?_⟩;have:=Rel.sl (ro:=ro) i id (m.aD+1) 0 (len+k) gb e1 (by rw[e2];omega);rw[e2,Yy,Xf]at this;rw[z];exact this
 . exact y.elim
theorem zT(h:bA E ro own s w a){o:Oper}{c:Call}{A:Nat}{T:TypeId}{x y:SV}{L M:Value}(X:o.op=.call c)(Z:c.callee=.builtin .append)(hT:c.argTypes= #[T,T])(j:c.args.map a.eval= #[L,M])
 (hx:Rel ro own x L) (hy:Rel ro own y M) {ws} (b:(kY P E.N A o.dst T x y).ok s ws):fW E P o s w a ws:=by
 unfold kY at b;split at b
 case h_2=>exact b.elim
 rename_i e hu;split at b
 case h_2=>exact b.elim
 rename_i z i d hz O hd;split at b
 case isFalse=>exact b.elim
 rename_i C;obtain⟨D,m,F⟩:=C;obtain⟨k,g,G,p⟩:=pJ h hy b;clear b;obtain⟨r,b⟩:=G;obtain⟨H,z1,z2,z3⟩:=gl (ro:=ro) (own:=own) hz;have J:i.zero=some H:=by
  have:=z1 w;simp only[zeroValue,Sem.run_bind,qF O,Result.andThen_ok]at this;cases R:i.zero with
  |none=>rw[R]at this;simp at this
  |some q=>rw[R]at this;simp at this;rw[this]
 have K:H.cells.size=i.size:=by rw[z2,D]
 refine Bf h X Z j hx hd F m (λv n xs u h1 h2=>?_) b;rw[hT];exact x9 (ro:=ro) (own:=own) E.B T o.type e i H hu O J K m v n xs u p r h1 h2 h.base
theorem Ak{x:Option Value}(h:tz x=true):x=some (.int .u8 0):=by
 unfold tz at h;split at h
 . rfl
 . cases h
theorem Lg(l:List UInt8):Lib.strCells ⟨l.toArray⟩=l.map λb=>Value.int .u8 b.toNat:=by simp[Lib.strCells]
theorem UA{l:List UInt8}{q j:Nat}{c:SV}(d:q<l.length)(h:(nQ l q)[j]?=some c):Rel ro own c ((l.map λb=>Value.int .u8 b.toNat).getD (q*1+j) undef):=by
 cases j with
 |zero=>
  simp[nQ,d]at h;subst h;simp[d];exact .int _ _ _
 |succ j=>simp[nQ]at h
theorem DP(h:bA E ro own s w a){o:Oper}{c:Call}{K:Nat}{T U:TypeId}{x y:SV}{vx vy:Value}(ho:o.op=.call c)(hc:c.callee=.builtin .append)(hT:c.argTypes= #[T,U])(r:c.args.map a.eval= #[vx,vy])
 (hx:Rel ro own x vx) (hy:Rel ro own y vy) {ws} (p:(vV P E.N K o.dst T U x y).ok s ws):fW E P o s w a ws:=by
 unfold vV at p;split at p
 case h_2=>exact p.elim
 rename_i e l hu D;split at p
 case h_2=>exact p.elim
 rename_i i d F hd;split at p
 case isFalse=>exact p.elim
 rename_i L;obtain⟨A,M,O,R⟩:=L;have A:=Ak A;refine Bf h ho hc r hx hd R (by omega) (λv n G b q1 q2=>?_) p;rw[hT,dR hy];have k:(⟨l.toArray⟩:ByteArray).size=l.length:=by simp[ByteArray.size]
 obtain⟨v',w',H,r2,r3,r4⟩:=Lib.run_append_own_string (P:=P) w E.B T U o.type e i hu D F A M O v n G b ⟨l.toArray⟩ (by rw[k];unfold maxLen;omega) (by rw[k];omega) h.base;rw[k,Lg]at r2;refine⟨v',w',_,H,r2,r3,?_,by simp,λq j sv hq hj=>UA hq hj⟩;rcases b.2 with⟨rfl,rfl⟩|⟨J,cap,C,rfl,al,hg,aq,aw,X,Z⟩
 . by_cases hm:l.length=0
   . left;rw[r4.2 ⟨rfl,by rw[k];exact hm⟩]
   . have m:=run_append_nil_string (P:=P) w T U o.type e i (.int .u8 0) hu D F A ⟨l.toArray⟩ (by rw[k];omega) (by rw[k];omega) (by rw[k,O];omega);rw[H]at m;simp only[Result.ok.injEq]at m;right;rw[m.1];rfl
 . by_cases z:n+l.length<=cap
   . have ad:C.size=cap:=by simpa using X
     have m:=Lib.run_append_room_string (P:=P) w T U o.type e i hu D F M J n cap C hg ⟨l.toArray⟩ (by rw[k];exact z) (by rw[k];omega);rw[H]at m;simp only[Result.ok.injEq]at m;left;rw[m.1];rfl
   . have ac:G.length=n:=by simpa using b.1
     have holds:∀j u,G[j]?=some u->w.cell? ((⟨J,0,none⟩:Addr).add j)=some u:=b.cells (g:=J) rfl;have m:=Lib.run_append_grow_string (P:=P) w T U o.type e i (.int .u8 0) hu D F A ⟨J,0,none⟩ n cap G (by rw[M];simpa using ac) holds ⟨l.toArray⟩ (by rw[k];omega) (by rw[k];omega) (by rw[k,O];exact growslice_fits (by omega) (by omega));rw[H]at m;simp only[Result.ok.injEq]at m;right;rw[m.1];rfl
end
end Go.Sx
namespace Go.Sx
open Go Go.RowKit
variable [bW]
section
variable {E : Env} {P : Program} {ro : RO} {own : Own} {s : St} {w : World} {a : Act}
theorem CM{g:Nat}{b d:Array Value}{t:TypeId}{h j:Nat}(k:w.heap[g]?=some (.cells b t (h,j))):w.setRow g d=gO w g d t h j:=by
 obtain⟨c,m⟩:=K3.1 k;unfold World.setRow gO
 congr 1
 apply Xz;intro i;rw[Zc,Yd]
 by_cases e:g=i
 . subst e;rw[JB rfl,JB rfl,k,JB c];rfl
 . rw[JA e,JA e]
theorem Cw(u y z d:TypeId)(g o b j k:Nat)(h:Value)(c:Array Value)(t:TypeId)(e:List Value)
 (A:P.underlying u=some (.slice d)) {i:TypeInfo} (B:P.info? d=some i) (C:i.size=1)
 (D:w.heap[g]?=some (.cells c t (0,0))) (m:(Builtin.lenOf h).run P w=.ok k w) (x:e.length=Nat.min k b)
 (q:(Builtin.firstCells 1 (Nat.min k b) h).run P w=.ok e.toArray w) (p:o+e.length<=c.size) (F:∀v∈e,v.oneCell'=true):
 (Builtin.copy_ #[u,y] z #[.slice (some ⟨g,o,none⟩) b j,h]).run P w=
  .ok (goInt e.length) (w.setRow g (c.toList.take o++e++c.toList.drop (o+e.length)).toArray):=by
 have r:=run_storeCells_at P g o t e 0 c w D (by simpa using p) F;simp[Builtin.copy_,run_underlying A,sizeOf,typeInfo,B,C,m,x▸q,<-x,r]
theorem OO(n:Nat):goInt n=.int .i64 n:=rfl
theorem snd_copyTo(h:bA E ro own s w a){o:Oper}{c:Call}{T U e:TypeId}{i:TypeInfo}{x:SV}{vx vy:Value}{k:Nat}{g:Nat->List SV}(ho:o.op=.call c)(hc:c.callee=.builtin .copy)(hT:c.argTypes= #[T,U])(C:c.args.map a.eval= #[vx,vy])
 (hu:P.underlying T=some (.slice e)) (hi:P.info? e=some i) (ay:i.size=1) (hx:Rel ro own x vx) (J:(Builtin.lenOf vy).run P w=.ok k w)
 (K:∀n,n<=k->∃q:List Value,q.length=n/\(Builtin.firstCells 1 n vy).run P w=.ok q.toArray w/\(∀v∈q,v.oneCell'=true)/\∀j L,j<n->g j=[L]->Rel ro own L (q.getD j undef))
 (M:∀j,j<k->∃L,g j=[L]) {ws} (p:(uz E.N o.dst x k g).ok s ws):fW E P o s w a ws:=by
 unfold uz at p;split at p
 case h_2=>exact p.elim
 rename_i id aD off len;obtain⟨m,hm,p⟩:=fG p;have he:=h.gK id m hm;split at p
 case isFalse=>exact p.elim
 rename_i bb;obtain⟨O,R,bv,X,Z⟩:=bb;obtain⟨y2,bd,p⟩:=lf p;split at p
 case h_2=>exact p.elim
 rename_i n es f;split at p
 case h_2=>exact p.elim
 rename_i d hd;split at p
 case isFalse=>exact p.elim
 rename_i D;obtain⟨D,be⟩:=D;subst D;obtain⟨⟨bz,bF⟩,p⟩:=p;have ac:=p.symm
 change ws=_ at ac
 subst ac;subst R;obtain⟨n0,f0,F,cc⟩:=he.row O;have ad:m.ns=1:=by
  have:=St.dX s id m.ns;rw[F]at this;simpa using this.symm
 have r:s.az id m.ns=[.a n 1 f]:=by
  rw[ad];simp[St.az,Q7,bd]
 have al:own.es id 0=1:=by rw[he.es 0 (.a n 1 f) (by rw[r];rfl)];rfl
 rcases fH hx with⟨b,hb,bL,hv⟩|⟨hb,hl,_,hv⟩
 case inr=>omega
 obtain⟨q,e',lo,ch,hh,r1,r2,r3,r4,r5,r6⟩:=(he.live b hb X).body;obtain⟨e2,bf⟩:=Qi.1 Z;obtain⟨rfl,rfl,rfl,q4⟩:=r2 e2 bf;rw[r]at r3 r4;simp only[aa,ar.size,Jv,JU]at r3;rw[al,JU]at hv;obtain⟨news,n1,n2,n3,n4⟩:=K (Nat.min k len) (Nat.min_le_left _ _);have ca:Nat.min k len<=len:=Nat.min_le_right _ _;have cj:Nat.min k len<=k:=Nat.min_le_left _ _;have z:=Cw (P:=P) (w:=w) T U o.type e b off len (own.cap id m.aD-off) k vy q e' news hu hi ay hh J n1 n2 (by rw[n1];omega) n3
 rw[n1]at z;intro Q;unfold Oper.wp;rw[aT ho hc,hT,C,hv];simp only[builtin,Sem.run_bind,z,Result.andThen_ok,Sem.run_pure];show dL E _ _ (a.put o.dst _)
 rw[hd,CM hh];have cb:(min k len:Nat)=Nat.min k len:=rfl
 let u:Array Value:=(q.toList.take off++news++q.toList.drop (off+Nat.min k len)).toArray
 have bi:u.size=q.size:=by
  simp only[u,Ko,Y0,Kj,Xd,Array.length_toList,n1];omega
 let s1:St:=s.put (.sg id 0) (.s (.a n 1 λj=>af (decide (off<=j/\j<off+min k len)) (g (j-off)) (f j)))
 have A:s1.az id m.ns=[.a n 1 λj=>af (decide (off<=j/\j<off+min k len)) (g (j-off)) (f j)]:=by
  rw[ad];simp[St.az,Q7,St.uC,s1,St.put]
 have ht:bA E ro own s1 (gO w b u e' 0 0) a:=by
  refine h.U3 hm X hb hh bi (λl hl=>?_) ?_ λt L y=>?_
  . exact St.bh _ _ (hl 0)
  . rw[A,r];rfl
  . rw[A]at y;have aq:t<n*1:=by have:=cK y;simpa[aa,ar.size]using this
    rw[cy aq]at y;simp only[Nat.div_one,Nat.mod_one]at y;obtain⟨x1,y1,G,bp,rfl⟩:=m8 y;have aw:flat [.a n 1 f] t=some y1:=by rw[cy aq];simp only[Nat.div_one,Nat.mod_one];exact bp
    have ax:∀t,u.getD t undef=if t<off then q.getD t undef else if t<off+Nat.min k len then news.getD (t-off) undef else q.getD t undef:=λt=>by
     simp only[u,Jf,List.getElem?_toArray,J0]
     by_cases H:t<off
     . rw[JB H,Jq,Ka (by simp;omega),Q6,JB H,Xp]
     . rw[JA H]
       by_cases h2:t<off+Nat.min k len
       . rw[JB h2,Jq,Jy (by simp;omega),Ka (by simp;omega)]
         congr 2;simp;omega
       . rw[JA h2,Jy (by simp;omega),Qg,Xp]
         congr 2;simp;omega
    rw[ax]
    by_cases hq:off<=t/\t<off+min k len
    . refine jv (λ_=>?_) (λhf=>by simp[hq]at hf);rw[JA (by omega),JB (by omega)];obtain⟨bt,B⟩:=M (t-off) (by omega);rw[B]at G;simp at G;subst G;exact n4 (t-off) bt (by omega) B
    . refine jv (λhf=>by simp[hq]at hf) (λ_=>?_);have:=r4 t y1 aw
      by_cases H:t<off
      . rw[JB H];exact this
      . rw[JA H,JA (by omega)];exact this
 refine⟨ro,own,?_⟩;show bA E ro own (s1.put (.tm d) (.v (.int .i64 ((min k len:Nat):Int)))) _ _
 refine ht.put be ?_;rw[OO];exact .int _ _ _
theorem Pt(h:bA E ro own s w a){o:Oper}{c:Call}{T U:TypeId}{x y:SV}{vx vy:Value}(B:o.op=.call c)(hc:c.callee=.builtin .copy)(hT:c.argTypes= #[T,U])(q:c.args.map a.eval= #[vx,vy])
 (hx:Rel ro own x vx) (hy:Rel ro own y vy) {ws} (p:(G7 P E.N o.dst T x y).ok s ws):fW E P o s w a ws:=by
 unfold G7 at p;split at p
 case h_2=>exact p.elim
 rename_i e hu;split at p
 case h_2=>exact p.elim
 rename_i i hi;split at p
 case isFalse=>exact p.elim
 rename_i K;split at p
 . rename_i l;have C:=dR hy;refine snd_copyTo h B hc hT q hu hi K hx (k:=l.length) (g:=nQ l) (by rw[C];simp[Builtin.lenOf,ByteArray.size,Sem.run_pure]) (λn hn=>?_) (λj _=>⟨_,rfl⟩) p;refine⟨(l.take n).map λb=>Value.int .u8 b.toNat,by simp;omega,?_,λv C=>?_,λj m d J=>?_⟩
   . rw[C];simp[Builtin.firstCells,Sem.run_pure]
   . simp only[Kh]at C;obtain⟨b,_,rfl⟩:=C;rfl
   . simp only[nQ,Qw,JK]at J;subst J;simp[d,show j<l.length by omega];exact .int _ _ _
 . obtain⟨k,g,R,z⟩:=pJ h hy p;obtain⟨L,p⟩:=R;have one:∀j,j<k->∃m,g j=[m]/\ib m=true:=λj d=>by
    have B:=L j d;simp only[mF,J2,JN,Js]at B
    match hl:g j,B with
    |[m],B=>exact⟨m,rfl,B.2 m (by simp)⟩
   refine snd_copyTo h B hc hT q hu hi K hx (k:=k) (g:=g) ?_ (λn hn=>?_) (λj d=>let⟨m,D,_⟩:=one j d;⟨m,D⟩) p
   . rcases z with⟨rfl,A,X,rfl⟩|⟨b,off,X,rfl,_⟩<;>simp[Builtin.lenOf,Sem.run_pure]
   . rcases z with⟨rfl,A,X,rfl⟩|⟨b,off,X,rfl,F⟩
     . have:n=0:=by omega
       subst this;refine⟨[],rfl,?_,by simp,λj m d=>by omega⟩;cases A with
       |none=>simp[Builtin.firstCells,Sem.run_pure]
       |some A=>
        have:=run_loadCells_list (P:=P) w A [] (by simp);simpa[Builtin.firstCells]using this
     . have G:∀j,j<k->∃u,w.cell? ⟨b,off+j,none⟩=some u/\∀m,g j=[m]->Rel ro own m u:=λj d=>by
        obtain⟨u,D,Z⟩:=F j 0 d (by omega);exact⟨u,by simpa using D,λm J=>Z m (by rw[J];rfl)⟩
       let r:List Value:=(List.range n).map λj=>(w.cell? ⟨b,off+j,none⟩).getD undef
       have M:∀j u,r[j]?=some u->j<n/\w.cell? ⟨b,off+j,none⟩=some u:=λj u d=>by
        have H:=(Jb.1 d).1;simp only[r,Qj,Zd]at H;obtain⟨u',D,_⟩:=G j (by omega);simp only[r,J5,Q9,H,K4,J3]at d;rw[D]at d;simp at d;subst d;exact⟨H,D⟩
       refine⟨r,by simp[r],?_,λv C=>?_,λj m d J=>?_⟩
       . have:=run_loadCells_list (P:=P) w ⟨b,off,none⟩ r (λj v d=>by rw[dU];exact(M j v d).2);have hl:r.length=n:=by simp[r]
         rw[hl]at this;simpa[Builtin.firstCells]using this
       . obtain⟨j,d⟩:=List.getElem?_of_mem C;obtain⟨D,Z⟩:=M j v d;obtain⟨m,h3,h4⟩:=one j (by omega);obtain⟨u,O,h6⟩:=G j (by omega);rw[Z]at O;simp at O;subst O;exact gk (h6 m h3) h4
       . obtain⟨u,O,h6⟩:=G j (by omega);have:r.getD j undef=u:=by simp[r,d,O]
         rw[this];exact h6 m J
end
end Go.Sx
