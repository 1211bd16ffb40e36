import Derived.Test.YtpjiopgakifhaaaGreatTA
import Derived.Maps.AppendAt
import Derived.Lib.AppendStr
import Derived.Laws.CopyRow
set_option linter.unusedSectionVars false
set_option linter.unusedSimpArgs false
set_option linter.unusedVariables false
set_option maxRecDepth 100000
namespace Go.Sx
open Go Go.RowKit
variable [bW]
def Ub :Value->Value->Bool
 | .int _ x, .int _ y=>x==y
 | .bool x, .bool y=>x==y
 | .string x, .string y=>x==y
 |_,_=>false
def KV :CK->Value->Prop
 | .int k, .int k' _=>k=k'
 | .bool, .bool _=>True
 | .str, .string _=>True
 |_,_=>False
def allEq (xs ys:Array Value) (off n:Nat):Bool:=(List.range n).all fun k=>Ub (xs.getD (off+k) undef) (ys.getD (off+k) undef)
theorem ua (xs ys:Array Value) (off m n:Nat):allEq xs ys off (m+n)=(allEq xs ys off m&&allEq xs ys (off+m) n):=by
 simp only [allEq,List.range_add,List.all_append,List.all_map]
 congr 1
 congr 1
 funext k
 simp [Kt]
def Typed (xs:Array Value) (off:Nat) (ks:List CK):Prop:=off+ks.length<=xs.size/\ ∀(k:Nat) (c:CK),ks[k]?=some c->KV c (xs.getD (off+k) undef)
theorem Typed.left {xs:Array Value} {off:Nat} {k1 k2:List CK} (h:Typed xs off (k1++k2)):Typed xs off k1:=
 ⟨by have:=h.1;simp at this;omega,fun k c hk=>h.2 k c (by rw [Ka (Jb.1 hk).1];exact hk)⟩
theorem Typed.right {xs:Array Value} {off:Nat} {k1 k2:List CK} (h:Typed xs off (k1++k2)):Typed xs (off+k1.length) k2:=
 ⟨by have:=h.1;simp at this;omega,fun k c hk=>by rw [Kt];exact h.2 (k1.length+k) c (by rw [Jy (by omega)];simpa using hk)⟩
theorem Typed.extract {xs:Array Value} {off n:Nat} {ks:List CK} (h:Typed xs off ks) (hn:n=ks.length):Typed (xs.extract off (off+n)) 0 ks:=by
 subst hn;refine⟨by have:=h.1;simp;omega,fun k c hk=> ?_⟩;have hlt:=(Jb.1 hk).1;have:=h.2 k c hk;have e:(xs.extract off (off+ks.length)).getD (0+k) undef=xs.getD (off+k) undef:=by
  rw [Jg,Jf,Ye,if_pos (by have:=h.1;omega),Jf]
 rw [e];exact this
theorem rJ {xs ys:Array Value} {off n:Nat} (hx:off+n<=xs.size) (hy:off+n<=ys.size):allEq (xs.extract off (off+n)) (ys.extract off (off+n)) 0 n=allEq xs ys off n:=by
 simp only [allEq];have: ∀k∈List.range n,Ub ((xs.extract off (off+n)).getD (0+k) undef) ((ys.extract off (off+n)).getD (0+k) undef)=Ub (xs.getD (off+k) undef) (ys.getD (off+k) undef):=by
  intro k hk;have hk:=Kn.1 hk;have e: ∀zs:Array Value,off+n<=zs.size->(zs.extract off (off+n)).getD (0+k) undef=zs.getD (off+k) undef:=by
   intro zs hz;rw [Jg,Jf,Ye,if_pos (by omega),Jf]
  rw [e xs hx,e ys hy]
 rw [Xm,Js,Js];exact⟨fun h k hk=>by rw [<-this k hk];exact h k hk,fun h k hk=>by rw [this k hk];exact h k hk⟩
section
variable {P : Program} (w : World)
theorem uy {T:TypeId} {ks:List CK} {n:Nat} {agg:Bool} (hagg:bZ P T=some agg) (hn:cw P T=some n) (hl:ks.length=n) {xs:Array Value} {off:Nat} (hx:Typed xs off ks) (h1:agg=false->n=1):
 (part T xs off).run P w= .ok (if agg then .agg (xs.extract off (off+n))else xs.getD off undef) w:=by
 cases agg with
 |true=>simpa using oG hagg hn xs off
 |false=>
  have:=h1 rfl;simpa using oj hagg xs off (by have:=hx.1;omega)
theorem IJ : ∀{d:Nat} {T:TypeId} {ks:List CK},dC P d T=some ks-> ∃agg,bZ P T=some agg/\(agg=false->ks.length=1)
 |0,_,_,h=>by simp [dC]at h
 |d+1,T,ks,h=>by
  unfold dC at h;unfold bZ;split at h
  . rename_i hu;simp at h;subst h;exact⟨false,by simp [hu],by simp⟩
  . rename_i hu;simp at h;subst h;exact⟨false,by simp [hu],by simp⟩
  . rename_i hu;simp at h;subst h;exact⟨false,by simp [hu],by simp⟩
  . rename_i hu;exact⟨true,by simp [hu],by simp⟩
  . rename_i hu;exact⟨true,by simp [hu],by simp⟩
  . cases h
theorem qw : ∀(d:Nat) (T:TypeId) (ks:List CK) (n:Nat) (agg:Bool),dC P d T=some ks->bZ P T=some agg->n=ks.length-> ∀(D:Nat),d<=D->
 ∀(xs ys:Array Value) (off:Nat),Typed xs off ks->Typed ys off ks->
 (Op.equalIn D T (if agg then .agg (xs.extract off (off+n))else xs.getD off undef) (if agg then .agg (ys.extract off (off+n))else ys.getD off undef)).run P w= .ok (allEq xs ys off n) w
 |0,_,_,_,_,h,_,_,_,_,_,_,_,_,_=>by simp [dC]at h
 |d+1,T,ks,n,agg,h,hagg,hn,D,hD,xs,ys,off,hx,hy=>by
  obtain⟨D,rfl⟩: ∃D',D=D'+1:=⟨D-1,by omega⟩;have one: ∀c,ks=[c]->agg=false->KV c (xs.getD off undef)/\KV c (ys.getD off undef)/\allEq xs ys off n=Ub (xs.getD off undef) (ys.getD off undef):=by
   rintro c rfl _;refine⟨by simpa using hx.2 0 c rfl,by simpa using hy.2 0 c rfl,?_⟩;subst hn;simp [allEq,Q7]
  unfold dC at h;split at h
  . rename_i k hu;simp at h;have ha:agg=false:=by simpa [bZ,hu]using hagg.symm
    obtain⟨k1,k2,k3⟩:=one _ h.symm ha;subst ha;simp only [Jr,if_false,k3];generalize xs.getD off undef=x at k1⊢;generalize ys.getD off undef=y at k2⊢;cases x<;>simp [KV]at k1
    cases y<;>simp [KV]at k2
    subst k1;subst k2;rw [run_equalIn_int w D T _ _ _ _ hu];rfl
  . rename_i hu;simp at h;have ha:agg=false:=by simpa [bZ,hu]using hagg.symm
    obtain⟨k1,k2,k3⟩:=one _ h.symm ha;subst ha;simp only [Jr,if_false,k3];generalize xs.getD off undef=x at k1⊢;generalize ys.getD off undef=y at k2⊢;cases x<;>simp [KV]at k1
    cases y<;>simp [KV]at k2
    rw [run_equalIn_bool w D T _ _ hu];rfl
  . rename_i hu;simp at h;have ha:agg=false:=by simpa [bZ,hu]using hagg.symm
    obtain⟨k1,k2,k3⟩:=one _ h.symm ha;subst ha;simp only [Jr,if_false,k3];generalize xs.getD off undef=x at k1⊢;generalize ys.getD off undef=y at k2⊢;cases x<;>simp [KV]at k1
    cases y<;>simp [KV]at k2
    simp [Op.equalIn,run_underlying hu,Ub]
  . rename_i fs hu;have ha:agg=true:=by simpa [bZ,hu]using hagg.symm
    subst ha;split at h
    . cases h
    rename_i hstood;simp only [if_true];have hfo:P.fieldsOf T=fs:=by simp [Program.fieldsOf,hu]
    rw [run_equalIn_struct w D T _ _ (by rw [hfo];exact hu) (by simpa using hstood),hfo];have hx':=hx.extract hn;have hy':=hy.extract hn;rw [<-rJ (by have:=hx.1;omega) (by have:=hy.1;omega)];generalize xs.extract off (off+n)=X at hx'⊢;generalize ys.extract off (off+n)=Y at hy'⊢;subst hn;clear hx hy hfo hu one;have flds: ∀(l:List Field) (o:Nat) (kl:List CK),dC.fields (fun t=>dC P d t) P o l=some kl->Typed X o kl->Typed Y o kl->(Op.eqFields D X Y l).run P w= .ok (allEq X Y o kl.length) w:=by
     intro l
     induction l with
     |nil=>intro o kl hk _ _;simp [dC.fields]at hk;subst hk;simp [Op.eqFields,allEq]
     |cons f l ih=>
      intro o kl hk tx ty;simp only [dC.fields]at hk;split at hk
      case h_2=>cases hk
      rename_i fk m hfk hm;split at hk
      case isFalse=>cases hk
      rename_i hc;obtain⟨hname,hoff,hlen⟩:=hc;simp only [Jp]at hk;obtain⟨kr,hkr,rfl⟩:=hk;obtain⟨fa,hfa,hf1⟩:=IJ hfk;have p1:=uy (P:=P) w hfa hm hlen (xs:=X) tx.left (fun e=>by rw [<-hlen];exact hf1 e);have p2:=uy (P:=P) w hfa hm hlen (xs:=Y) ty.left (fun e=>by rw [<-hlen];exact hf1 e);have pe:=qw d f.type fk m fa hfk hfa hlen.symm D (by omega) X Y o tx.left ty.left;simp only [Op.eqFields,hname,ne_eq,not_false_eq_true,if_true,Sem.run_bind,hoff,p1,p2,pe,Result.andThen_ok]
      rw [Y0,ua,hlen];cases hb:allEq X Y o m with
      |false=>simp
      |true=>
       simp only [Bool.not_true,Jr,if_false,Qh];have:=ih (o+m) kr hkr (by rw [<-hlen];exact tx.right) (by rw [<-hlen];exact ty.right);exact this
    exact flds fs.toList 0 ks h hx' hy'
  . rename_i len e hu;have ha:agg=true:=by simpa [bZ,hu]using hagg.symm
    subst ha;split at h
    case h_2=>cases h
    rename_i ek m hek hm;split at h
    case isFalse=>cases h
    rename_i hlen;simp only [J3]at h;simp only [if_true];have hx':=hx.extract hn;have hy':=hy.extract hn;rw [<-rJ (by have:=hx.1;omega) (by have:=hy.1;omega)];generalize xs.extract off (off+n)=X at hx'⊢;generalize ys.extract off (off+n)=Y at hy'⊢;obtain⟨ea,hea,he1⟩:=IJ hek;have hkl:ks.length=len*m:=by rw [<-h];simp [hlen]
    subst hn;have loop: ∀(c i:Nat),i+c=len->(forIn (m:=Sem) (List.range' i c) ((none,()):Option Bool×Unit) fun j r=>do
     let a<-part e X (j*m)
     let b<-part e Y (j*m)
     let r'<-Op.equalIn D e a b
     if(!r')=true then pure (ForInStep.done (some false,()))else pure (ForInStep.yield (none,()))).run P w= .ok ((if allEq X Y (i*m) (c*m)then none else some false),()) w:=by
     intro c
     induction c with
     |zero=>intro i _;simp [allEq]
     |succ c ih=>
      intro i hi;have hsub:Typed X (i*m) ek/\Typed Y (i*m) ek:=by
       have key: ∀(k:Nat) (c':CK),ek[k]?=some c'->ks[i*m+k]?=some c':=by
        intro k c' hk;have hk':=(Jb.1 hk).1;rw [<-h];have: ∀(t i:Nat),i<t->((List.replicate t ek).flatten)[i*m+k]?=some c':=by
         intro t
         induction t with
         |zero=>intro i hi;omega
         |succ t iht=>
          intro i hi;rw [Qy,List.flatten_cons];cases i with
          |zero=>rw [Ka (by omega)];simpa using hk
          |succ i=>
           rw [Jy (by rw [Ji];omega)];rw [show(i+1)*m+k-ek.length=i*m+k from by rw [Ji];omega];exact iht i (by omega)
        exact this len i (by omega)
       have hb:i*m+m<=len*m:=by
        have:(i+1)*m<=len*m:=Jl _ (by omega);rw [Ji]at this;omega
       refine⟨⟨by have:=hx'.1;omega,fun k c' hk=> ?_⟩,⟨by have:=hy'.1;omega,fun k c' hk=> ?_⟩⟩
       . have:=hx'.2 _ c' (key k c' hk);rwa [Jg]at this
       . have:=hy'.2 _ c' (key k c' hk);rwa [Jg]at this
      have p1:=uy (P:=P) w hea hm hlen (xs:=X) hsub.1 (fun e=>by rw [<-hlen];exact he1 e);have p2:=uy (P:=P) w hea hm hlen (xs:=Y) hsub.2 (fun e=>by rw [<-hlen];exact he1 e);have pe:=qw d e ek m ea hek hea hlen.symm D (by omega) X Y (i*m) hsub.1 hsub.2;rw [Z7,List.forIn_cons];simp only [Sem.run_bind,p1,p2,pe,Result.andThen_ok];have e2:allEq X Y (i*m) ((c+1)*m)=(allEq X Y (i*m) m&&allEq X Y ((i+1)*m) (c*m)):=by
       rw [show(c+1)*m=m+c*m from by rw [Ji];omega,ua,Ji,Nat.one_mul]
      rw [e2];cases hb:allEq X Y (i*m) m with
      |false=>simp
      |true=>
       simp only [Bool.not_true,Jr,if_false,Sem.run_pure,Result.andThen_ok,Qh];exact ih (i+1) (by omega)
    simp only [Op.equalIn,Sem.run_bind,run_underlying hu,Result.andThen_ok,aS hm,Std.Legacy.Range.forIn_eq_forIn_range',Std.Legacy.Range.size,Xf,Nat.add_one_sub_one,Nat.div_one];have hl:=loop len 0 (by omega);rw [hkl];simp only [Yy]at hl;rw [hl];simp only [Result.andThen_ok];cases allEq X Y 0 (len*m)<;>simp
  . cases h
end
end Go.Sx
namespace Go.Sx
open Go Go.RowKit
variable [bW]
section
variable {E : Env} {P : Program} {ro : RO} {own : Own} {s : St} {w : World} {a : Act}
theorem Bs {x:SV} (h:iM x=some .bool): ∃b,Lz x=some b:=by
 cases x<;>simp [iM]at h<;>exact⟨_,rfl⟩
theorem EU {x y:SV} {p q:Bool} (hx:Lz x=some p) (hy:Lz y=some q):ot x y=(p==q):=by
 cases x<;>simp [Lz]at hx<;>cases y<;>simp [Lz]at hy<;>subst hx<;>subst hy<;>rfl
theorem DZ {x y:SV} {k:CK} {v u:Value} (hx:Rel ro own x v) (hy:Rel ro own y u) (kx:iM x=some k) (ky:iM y=some k):KV k v/\KV k u/\Ub v u=ot x y:=by
 cases k with
 |bool=>
  obtain⟨p,hp⟩:=Bs kx;obtain⟨q,hq⟩:=Bs ky;rw [xj hx hp,xj hy hq,EU hp hq];exact⟨trivial,trivial,rfl⟩
 |int k=>
  cases x<;>simp [iM]at kx
  cases y<;>simp [iM]at ky
  subst kx;subst ky;rw [aK hx,aK hy];exact⟨rfl,rfl,rfl⟩
 |str=>
  cases x<;>simp [iM]at kx
  cases y<;>simp [iM]at ky
  rename_i s1 s2;rw [dR hx,dR hy];refine⟨trivial,trivial,?_⟩;show((⟨s1⟩:Array UInt8)==⟨s2⟩)=(s1==s2)
  simp
theorem jG : ∀{vs:List SV} {ks:List CK},sO vs ks=true->vs.length=ks.length/\ ∀(j:Nat) (c:CK),ks[j]?=some c-> ∃v,vs[j]?=some v/\iM v=some c
 |[],[],_=>⟨rfl,by simp⟩
 |v::r,k::ks,h=>by
  simp only [sO,J2,beq_iff_eq]at h;obtain⟨h1,h2⟩:=jG h.2;refine⟨by simp [h1],fun j c hj=> ?_⟩;cases j with
  |zero=>simp at hj;subst hj;exact⟨v,rfl,h.1⟩
  |succ j=>simp at hj;simpa using h2 j c hj
 |[],_::_,h=>by simp [sO]at h
 |_::_,[],h=>by simp [sO]at h
theorem nP : ∀{xs ys:List SV},xs.length=ys.length->(tJ xs ys=true↔ ∀(j:Nat) (x y:SV),xs[j]?=some x->ys[j]?=some y->ot x y=true)
 |[],[],_=>by simp [tJ]
 |x::r,y::r',h=>by
  simp only [tJ,J2,nP (xs:=r) (ys:=r') (by simpa using h)];constructor
  . rintro⟨h1,h2⟩ j a b ha hb;cases j with
    |zero=>simp at ha hb;subst ha;subst hb;exact h1
    |succ j=>simp at ha hb;exact h2 j a b ha hb
  . intro h;exact⟨h 0 x y rfl rfl,fun j a b ha hb=>h (j+1) a b (by simpa using ha) (by simpa using hb)⟩
 |[],_::_,h=>by simp at h
 |_::_,[],h=>by simp at h
theorem uW {n es:Nat} {f:Nat->List SV} {r:List ar} {ks:List CK} (h:ef (.a n es f::r) ks):(∀i,i<n->sO (f i) ((ks.drop (i*es)).take es)=true)/\n*es<=ks.length/\ef r (ks.drop (n*es)):=by
 simp only [ef,aL,J2,aaa,Js,Kn,decide_eq_true_eq,Nat.ble_eq]at h;obtain⟨⟨h1,h2⟩,h3,h4⟩:=h;exact⟨fun i hi=>by rw [h1 i hi];exact h3 i hi,h2,h4⟩
theorem nM : ∀{l:List ar} {ks:List CK},ef l ks->aa l=ks.length/\ ∀(k:Nat) (c:CK),ks[k]?=some c-> ∃v,flat l k=some v/\iM v=some c
 |[],ks,h=>by
  simp only [ef,aL,List.isEmpty_iff]at h;obtain⟨rfl,_⟩:=h;exact⟨rfl,by simp⟩
 | .s v::r,k::ks,h=>by
  simp only [ef,aL,beq_iff_eq]at h;obtain⟨h1,h2⟩:=nM h.2;refine⟨by simp [aa,ar.size,h1];omega,fun j c hj=> ?_⟩;cases j with
  |zero=>simp at hj;subst hj;exact⟨v,cC _ _,h.1⟩
  |succ j=>simp at hj;rw [cB];exact h2 j c hj
 | .s v::r,[],h=>by simp [ef]at h
 | .a n es f::r,ks,h=>by
  obtain⟨h0,hle,hr⟩:=uW h;obtain⟨h1,h2⟩:=nM hr;rw [Xd]at h1;refine⟨by simp [aa,ar.size,h1];omega,fun j c hj=> ?_⟩
  by_cases hlt:j<n*es
  . have hes:0<es:=by
     rcases Jw es with h0|h0
     . subst h0;simp at hlt
     . exact h0
    have hi:j/es<n:=by rw [K9 hes];exact hlt
    obtain⟨k1,k2⟩:=jG (h0 (j/es) hi);have hdm:j/es*es+j%es=j:=by rw [Km];exact Q5 j es
    rw [cy hlt];exact k2 (j%es) c (by rw [Q6,if_pos (Ki _ hes),Qg,hdm];exact hj)
  . rw [gZ hlt];exact h2 (j-n*es) c (by rw [Qg,show n*es+(j-n*es)=j from by omega];exact hj)
theorem pr : ∀{l l':List ar} {ks:List CK},bG l l'=true->ef l ks->ef l' ks->(iI l l'=true↔ ∀(k:Nat) (x y:SV),flat l k=some x->flat l' k=some y->ot x y=true)
 |[],[],_,_,_,_=>by simp [iI,flat]
 | .s v::r, .s u::r',k::ks,hs,h,h'=>by
  simp only [bG,Qh]at hs;simp only [ef,aL]at h h';simp only [iI,J2,pr hs h.2 h'.2];constructor
  . rintro⟨h1,h2⟩ j x y hx hy;cases j with
    |zero=>rw [cC]at hx hy;simp at hx hy;subst hx;subst hy;exact h1
    |succ j=>rw [cB]at hx hy;exact h2 j x y hx hy
  . intro hh;exact⟨hh 0 v u (cC _ _) (cC _ _),fun j x y hx hy=>hh (j+1) x y (by rw [cB];exact hx) (by rw [cB];exact hy)⟩
 | .s v::r, .s u::r',[],_,h,_=>by simp [ef]at h
 | .a n es f::r, .a n' es' g::r',ks,hs,h,h'=>by
  simp only [bG,J2,beq_iff_eq]at hs;obtain⟨⟨rfl,rfl⟩,hs⟩:=hs;have h:=uW h;have h':=uW h';simp only [iI,J2,pr hs h.2.2 h'.2.2,Js,Kn];have hl: ∀i,i<n->(f i).length=(g i).length:=fun i hi=>by rw [(jG (h.1 i hi)).1,(jG (h'.1 i hi)).1]
  have hle: ∀i,i<n->(f i).length=es:=fun i hi=>by
   rw [(jG (h.1 i hi)).1,Kj,Xd];have:(i+1)*es<=n*es:=Jl _ hi;rw [Ji]at this;have:=h.2.1;omega
  constructor
  . rintro⟨h1,h2⟩ j x y hx hy
    by_cases hlt:j<n*es
    . have hes:0<es:=by
       rcases Jw es with h0|h0
       . subst h0;simp at hlt
       . exact h0
      have hi:j/es<n:=by rw [K9 hes];exact hlt
      rw [cy hlt]at hx hy;exact(nP (hl _ hi)).1 (h1 _ hi) _ x y hx hy
    . rw [gZ hlt]at hx hy;exact h2 _ x y hx hy
  . intro hh;refine⟨fun i hi=>(nP (hl i hi)).2 fun j x y hx hy=> ?_,fun j x y hx hy=> ?_⟩
    . have hj:j<es:=by rw [<-hle i hi];exact(Jb.1 hx).1
      have hin:i*es+j<n*es:=by
       have:(i+1)*es<=n*es:=Jl _ hi;rw [Ji]at this;omega
      have e1:=lM (f:=f) hi hj;have e2:=lM (f:=g) hi hj;simp only [ar.at,hin,if_true]at e1 e2;exact hh (i*es+j) x y (by rw [cy hin,e1];exact hx) (by rw [cy hin,e2];exact hy)
    . exact hh (n*es+j) x y (by rw [gZ (by omega),show n*es+j-n*es=j from by omega];exact hx) (by rw [gZ (by omega),show n*es+j-n*es=j from by omega];exact hy)
 | .s _::_, .a _ _ _::_,_,hs,_,_=>by simp [bG]at hs
 | .a _ _ _::_, .s _::_,_,hs,_,_=>by simp [bG]at hs
 |[],_::_,_,hs,_,_=>by simp [bG]at hs
 |_::_,[],_,hs,_,_=>by simp [bG]at hs
theorem HA {T:TypeId} {l l':List ar} {ks:List CK} {v u:Value} (hk:dC P 8 T=some ks) (hagg:bZ P T=some true) (hs:bG l l'=true) (h1:ef l ks) (h2:ef l' ks) (hv:Rel ro own (.agg l) v) (hu:Rel ro own (.agg l') u):
 ∃xs ys:Array Value,v= .agg xs/\u= .agg ys/\(Op.equalIn 10000 T (.agg xs) (.agg ys)).run P w= .ok (iI l l') w:=by
 obtain⟨xs,rfl,hxs,hx⟩:=cU hv;obtain⟨ys,rfl,hys,hy⟩:=cU hu;refine⟨xs,ys,rfl,rfl,?_⟩;obtain⟨f1,f2⟩:=nM h1;obtain⟨g1,g2⟩:=nM h2;have cell: ∀(k:Nat) (c:CK),ks[k]?=some c->KV c (xs.getD k undef)/\KV c (ys.getD k undef)/\ ∃x y,flat l k=some x/\flat l' k=some y/\Ub (xs.getD k undef) (ys.getD k undef)=ot x y:=by
  intro k c hc;obtain⟨x,hxk,kx⟩:=f2 k c hc;obtain⟨y,hyk,ky⟩:=g2 k c hc;obtain⟨e1,e2,e3⟩:=DZ (hx k x hxk) (hy k y hyk) kx ky;exact⟨e1,e2,x,y,hxk,hyk,e3⟩
 have hall:allEq xs ys 0 ks.length=iI l l':=by
  rw [Xm,pr hs h1 h2];simp only [allEq,Js,Kn,Jg];constructor
  . intro h k x y hxk hyk;have hlt:k<ks.length:=by rw [<-f1];exact cK hxk
    obtain⟨_,_,x',y',hx',hy',e⟩:=cell k _ (J4 hlt);rw [hxk]at hx';rw [hyk]at hy';simp only [J3]at hx' hy';subst hx';subst hy';rw [<-e];exact h k hlt
  . intro h k hlt;obtain⟨_,_,x',y',hx',hy',e⟩:=cell k _ (J4 hlt);rw [e];exact h k x' y' hx' hy'
 have t1:Typed xs 0 ks:=⟨by omega,fun k c hc=>by rw [Jg];exact(cell k c hc).1⟩;have t2:Typed ys 0 ks:=⟨by omega,fun k c hc=>by rw [Jg];exact(cell k c hc).2.1⟩;have hrun:=qw (P:=P) w 8 T ks ks.length true hk hagg rfl 10000 (by omega) xs ys 0 t1 t2;rw [hall]at hrun;simp only [if_true,Jg]at hrun;rw [show xs.extract 0 ks.length=xs from by rw [<-f1,<-hxs];simp,show ys.extract 0 ks.length=ys from by rw [<-g1,<-hys];simp]at hrun
 exact hrun
theorem fu {op:BinOp} {T:TypeId} {x y:Operand} {v u:Value} (hv:v.oneCell'=true) (hn:v≠ .nilIface):(eqGuard op T x y v u).run P w= .ok () w:=by
 cases v<;>first
  |exact absurd rfl hn
  |(cases op<;>rfl)
  |cases hv
theorem uF (h:bA E ro own s w a) {o:Oper} {op:BinOp} {T U:TypeId} {x y:Operand} (ho:o.op= .binOp op T x y U) {x' y':SV} (hx:Rel ro own x' (a.eval x)) (hy:Rel ro own y' (a.eval y)) {ws} (hk:(yp P E.N o.dst op T x' y').ok s ws):fW E P o s w a ws:=by
 have go: ∀{z:SV} {v:Value},(eqGuard op T x y (a.eval x) (a.eval y)).run P w= .ok () w->(binOp op T (a.eval x) (a.eval y)).run P w= .ok v w->Rel ro own z v->(bm E.N o.dst z).ok s ws->fW E P o s w a ws:=by
  intro z v hg hrun hr hk;refine aP h (v:=v) ?_ hr hk;unfold execOp;simp [ho,hg,hrun]
 unfold yp at hk;split at hk
 . rename_i k a1 k' b1;have hxv:=aK hx;have hyv:=aK hy;rw [hxv,hyv]at go;have hg: ∀{op:BinOp},(eqGuard op T x y (.int k a1) (.int k' b1)).run P w= .ok () w:=fu rfl (by simp);split at hk
   . obtain⟨hb,hk⟩:=hk;exact go hg (by simp [binOp,shift_shl_any _ _ _ _ hb]) (.int _ _ _) hk
   . obtain⟨hb,hk⟩:=hk;exact go hg (by simp [binOp,shift_shr_any _ _ _ _ hb]) (.int _ _ _) hk
   . split at hk
     case isFalse=>exact hk.elim
     rename_i e;subst e;obtain⟨hb,hk⟩:=hk;exact go hg (by simp [binOp,Op.intDiv,hb]) (.int _ _ _) hk
   . split at hk
     case isFalse=>exact hk.elim
     rename_i e;subst e;obtain⟨hb,hk⟩:=hk;exact go hg (by simp [binOp,Op.intDiv,hb]) (.int _ _ _) hk
   . rename_i n1 n2 n3 n4;split at hk
     case isFalse=>exact hk.elim
     rename_i e;subst e;split at hk
     case h_2=>exact hk.elim
     rename_i k2 v hu hv;have: ∃u,(binOp op T (.int k a1) (.int k b1)).run P w= .ok u w/\Rel ro own v u:=by
      cases op<;>simp [E7]at hv<;>subst hv
      case add=>exact⟨_,by simp [binOp,Op.intArith], .int _ _ _⟩
      case sub=>exact⟨_,by simp [binOp,Op.intArith], .int _ _ _⟩
      case mul=>exact⟨_,by simp [binOp,Op.intArith], .int _ _ _⟩
      case and=>exact⟨_,by rw [binOp_and];rfl, .int _ _ _⟩
      case or=>exact⟨_,by rw [binOp_or];rfl, .int _ _ _⟩
      case xor=>exact⟨_,by rw [binOp_xor];rfl, .int _ _ _⟩
      case andNot=>exact⟨_,by rw [binOp_andNot];rfl, .int _ _ _⟩
      all_goals exact⟨_,by simp [binOp,Op.intCmp], .bool _ _⟩
     obtain⟨u,hrun,hr⟩:=this;exact go hg hrun hr hk
 . rename_i l1 l2;have hxv:=dR hx;have hyv:=dR hy;rw [hxv,hyv]at go;have hg: ∀{op:BinOp},(eqGuard op T x y (.string ⟨l1.toArray⟩) (.string ⟨l2.toArray⟩)).run P w= .ok () w:=fu rfl (by simp);have e1:(⟨l1.toArray⟩:ByteArray).toList=l1:=by rw [ByteArray.toList_eq]
   have e2:(⟨l2.toArray⟩:ByteArray).toList=l2:=by rw [ByteArray.toList_eq]
   have s1:(⟨l1.toArray⟩:ByteArray).size=l1.length:=rfl;have s2:(⟨l2.toArray⟩:ByteArray).size=l2.length:=rfl;split at hk
   . obtain⟨hb,hk⟩:=hk;have hno: ¬(((l1.length+l2.length:Nat):Int)>IntKind.i64.max):=by
      have:IntKind.i64.max=9223372036854775807:=by decide
      rw [this];omega
     have hap:(⟨l1.toArray⟩:ByteArray)++⟨l2.toArray⟩=⟨(l1++l2).toArray⟩:=by
      apply ByteArray.ext;rw [ByteArray.data_append];simp
     exact go hg (v:= .string ⟨(l1++l2).toArray⟩) (by simp only [binOp,Op.stringOp,s1,s2,hno,if_false,Sem.run_pure,hap]) (.str _ _) hk
   . exact go hg (v:= .bool (l1==l2)) (by simp only [binOp,Op.stringOp,e1,e2,Sem.run_pure]) (.bool _ _) hk
   . exact go hg (v:= .bool (!(l1==l2))) (by simp only [binOp,Op.stringOp,e1,e2,Sem.run_pure]) (.bool _ _) hk
   . exact hk.elim
 . rename_i l l';split at hk
   case h_2=>exact hk.elim
   rename_i ks hks;split at hk
   case isFalse=>exact hk.elim
   rename_i hc;obtain⟨hc1,hc2,hc3⟩:=hc;obtain⟨⟨f1,f2⟩,hk⟩:=hk;obtain⟨xs,ys,e1,e2,hrun⟩:=HA (w:=w) hks hc3 hc2 f1 f2 hx hy;rw [e1,e2]at go;have hg:(eqGuard op T x y (.agg xs) (.agg ys)).run P w= .ok () w:=run_eqGuard_agg w op T x y xs ys hc1;split at hk
   . exact go hg (v:= .bool (iI l l')) (by rw [run_eql_struct,hrun];rfl) (.bool _ _) hk
   . exact go hg (v:= .bool (!iI l l')) (by rw [run_neq_struct,hrun];rfl) (.bool _ _) hk
   . exact hk.elim
 . split at hk
   case h_2=>exact hk.elim
   rename_i p q hp hq hu;have hxv:=xj hx hp;have hyv:=xj hy hq;rw [hxv,hyv]at go;have hg: ∀{op:BinOp},(eqGuard op T x y (.bool p) (.bool q)).run P w= .ok () w:=fu rfl (by simp);split at hk
   . exact go hg (v:= .bool (p==q)) (by simp [binOp,run_equal_bool w T p q hu]) (.bool _ _) hk
   . exact go hg (v:= .bool (!(p==q))) (by simp [binOp,run_equal_bool w T p q hu]) (.bool _ _) hk
   . exact hk.elim
theorem RL (h:bA E ro own s w a) {o:Oper} {op:BinOp} {T U:TypeId} {x y:Operand} (ho:o.op= .binOp op T x y U) {ws} (hk:(fR x fun x=>fR y fun y=>yp P E.N o.dst op T x y).ok s ws):fW E P o s w a ws:=by
 obtain⟨x',hx,hk1⟩:=aZ h hk;obtain⟨y',hy,hk⟩:=aZ h hk1;exact uF h ho hx hy hk
theorem He {op:BinOp} {T:TypeId} {k:IntKind} {n1 n2:Int} {v:SV} (hv:E7 op k n1 n2=some v): ∃u,(binOp op T (.int k n1) (.int k n2)).run P w= .ok u w/\Rel ro own v u:=by
 cases op<;>simp [E7]at hv<;>subst hv
 case add=>exact⟨_,by simp [binOp,Op.intArith], .int _ _ _⟩
 case sub=>exact⟨_,by simp [binOp,Op.intArith], .int _ _ _⟩
 case mul=>exact⟨_,by simp [binOp,Op.intArith], .int _ _ _⟩
 case and=>exact⟨_,by rw [binOp_and];rfl, .int _ _ _⟩
 case or=>exact⟨_,by rw [binOp_or];rfl, .int _ _ _⟩
 case xor=>exact⟨_,by rw [binOp_xor];rfl, .int _ _ _⟩
 case andNot=>exact⟨_,by rw [binOp_andNot];rfl, .int _ _ _⟩
 all_goals exact⟨_,by simp [binOp,Op.intCmp], .bool _ _⟩
end
end Go.Sx
namespace Go.Sx
open Go Go.RowKit
variable [bW]
theorem qc (off:Nat): ∀(vs:List Value) (j:Nat) (cs:Array Value),(vs.zipIdx j).foldl (fun cs (x:Value×Nat)=>cs.setIfInBounds (off+x.2) x.1) cs=dw cs (off+j) vs
 |[],_,_=>rfl
 |v::r,j,cs=>by
  rw [List.zipIdx_cons,List.foldl_cons,qc off r (j+1)];rfl
theorem qM {P:Program} {w:World}: ∀(fs:List Field),fs.all (fun f=>(cw P f.type).isSome)=true->((fs.mapM fun f=>do pure (f.offset,<-sizeOf f.type):Sem (List (Nat×Nat)))).run P w= .ok (fs.map fun f=>(f.offset,(cw P f.type).getD 0)) w
 |[],_=>by simp
 |f::r,h=>by
  simp only [List.all_cons,J2]at h;obtain⟨n,hn⟩:=Qi.1 h.1;simp only [Xn,Sem.run_bind,aS hn,Result.andThen_ok,Sem.run_pure,qM r h.2,J8,hn,K5]
section
variable {E : Env} {P : Program} {ro : RO} {own : Own} {s : St} {w : World} {a : Act}
theorem AR {place:Nat->Option (Nat×Nat)} {i off n:Nat} {v:Value} {cs:Array Value} {rest:List (Nat×Value)} (hp:place i=some (off,n)) (hv:v.cells.size=n) (hle:off+n<=cs.size):
 Instr.fill place cs ((i,v)::rest)=Instr.fill place (dw cs off v.cells.toList) rest:=by
 simp only [Instr.fill,hp];rw [if_neg (by simp [hv];omega)]
 congr 1
 have:=qc off v.cells.toList 0 cs;rw [Jv]at this;rw [<-this,<-Array.foldl_toList];simp [Array.toList_zipIdx]
def mK (ro:RO) (own:Own) (l:List ar) (cs:Array Value):Prop:=cs.size=aa l/\ ∀(k:Nat) (sv:SV),flat l k=some sv->Rel ro own sv (cs.getD k undef)
theorem wk {T:TypeId} {fs:Array Field} (hT:P.underlying T=some (.struct fs)): ∀{parts:List (Nat×SV)} {vals:List (Nat×Value)} {l l':List ar} {cs:Array Value},B8 P T parts l=some l'->mK ro own l cs->
 parts.map (·.1)=vals.map (·.1)->aQ ro own (parts.map (·.2)) (vals.map (·.2))-> ∃cs',Instr.fill (fun i=>(fs[i]?).map fun f=>(f.offset,(cw P f.type).getD 0)) cs vals=some cs'/\mK ro own l' cs'
 |[],[],l,l',cs,h,hc,_,_=>by simp [B8]at h;subst h;exact⟨cs,rfl,hc⟩
 |(i,x)::r,(i',v)::vr,l,l',cs,h,hc,hi,hr=>by
  simp only [J8,Qw]at hi;obtain⟨rfl,hi⟩:=hi;obtain⟨hx,hr⟩:=hr;simp only [B8]at h;split at h
  case h_2=>cases h
  rename_i f vs hf hvs;split at h
  case isFalse=>cases h
  rename_i hn;split at h
  case h_2=>cases h
  rename_i A B hA hB;obtain⟨a1,a2,a3⟩:=gW hA;obtain⟨b1,b2⟩:=jo hB;obtain⟨v1,v2⟩:=vu hx hvs;have hfs:fs[i]?=some f:=by simpa [nY,hT]using hf
  have hc':mK ro own (A++vs++B) (dw cs f.offset v.cells.toList):=by
   have hvl:v.cells.toList.length=aa vs:=by simpa using v1
   refine⟨by rw [jn,cu,cu,hc.1];omega,fun k sv hk=> ?_⟩;rw [ji k f.offset a1]at hk;rw [jl _ _ _ _ (by rw [hvl,hc.1];omega),hvl,mc]
   by_cases k1:k<f.offset
   . rw [if_pos k1,a3 k k1]at hk;rw [if_neg (by omega)];exact hc.2 k sv hk
   . rw [if_neg k1]at hk
     by_cases k2:k<f.offset+aa vs
     . rw [if_pos k2]at hk;rw [if_pos (by omega)];exact v2 _ sv hk
     . rw [if_neg k2,b2,show f.offset+aa vs+(k-(f.offset+aa vs))=k from by omega]at hk;rw [if_neg (by omega)];exact hc.2 k sv hk
  obtain⟨cs',e1,e2⟩:=wk hT h hc' hi hr;exact⟨cs',by rw [AR (off:=f.offset) (n:=aa vs) (by simp [hfs,hn]) v1 (by rw [hc.1];omega)];exact e1,e2⟩
 |[],_::_,_,_,_,_,_,hi,_=>by simp at hi
 |_::_,[],_,_,_,_,_,hi,_=>by simp at hi
theorem l7 {n es:Nat}: ∀{parts:List (Nat×SV)} {vals:List (Nat×Value)} {f f':Nat->List SV} {cs:Array Value},sr n es parts f=some f'->mK ro own [.a n es f] cs->
 parts.map (·.1)=vals.map (·.1)->aQ ro own (parts.map (·.2)) (vals.map (·.2))-> ∃cs',Instr.fill (fun i=>some (i*es,es)) cs vals=some cs'/\mK ro own [.a n es f'] cs'
 |[],[],f,f',cs,h,hc,_,_=>by simp [sr]at h;subst h;exact⟨cs,rfl,hc⟩
 |(i,x)::r,(i',v)::vr,f,f',cs,h,hc,hi,hr=>by
  simp only [J8,Qw]at hi;obtain⟨rfl,hi⟩:=hi;obtain⟨hx,hr⟩:=hr;simp only [sr]at h;split at h
  case h_2=>cases h
  rename_i vs hvs;split at h
  case isFalse=>cases h
  rename_i hc0;obtain⟨hin,hlen⟩:=hc0;obtain⟨v1,v2⟩:=xT hx hvs;have hsz:cs.size=n*es:=by rw [hc.1];simp [aa,ar.size]
  have hie:i*es+es<=n*es:=by
   have:(i+1)*es<=n*es:=Jl _ hin;rw [Ji]at this;omega
  have hvl:v.cells.toList.length=es:=by rw [<-hlen];simpa using v1
  have key: ∀g:Nat->List SV,(∀(t j:Nat) (sv:SV),t<n->(g t)[j]?=some sv->j<es->(t=i->vs[j]?=some sv\/ ∃y,sv=dY true (vs.getD j .any) y/\j<vs.length)/\(t≠i-> ∃y,(f t)[j]?=some y/\(sv=y\/ ∃x,sv=dY false x y)))->
   mK ro own [.a n es g] (dw cs (i*es) v.cells.toList):=by
   intro g hg;refine⟨by rw [jn,hsz];simp [aa,ar.size],fun k sv hk=> ?_⟩;have hk2:k<n*es:=by have:=cK hk;simpa [aa,ar.size]using this
   rw [cy hk2]at hk;have hes0:0<es:=by
    rcases Jw es with h0|h0
    . subst h0;simp at hk2
    . exact h0
   have hdm:k/es*es+k%es=k:=by rw [Km];exact Q5 k es
   have hmod:k%es<es:=Ki _ hes0;have hkn:k/es<n:=by rw [K9 hes0];exact hk2
   obtain⟨g1,g2⟩:=hg (k/es) (k%es) sv hkn hk hmod;rw [jl _ _ _ _ (by rw [hvl,hsz];omega),hvl,mc]
   by_cases hin:k/es=i
   . rw [hin]at hdm;rw [if_pos (by omega),show k-i*es=k%es from by omega];rcases g1 hin with h1|⟨y,rfl,hj⟩
     . exact v2 _ _ h1
     . refine jv (fun _=>v2 _ _ ?_) (by simp);rw [J0,J4 hj];rfl
   . have hne: ¬(i*es<=k/\k<i*es+es):=by
      rintro⟨q1,q2⟩;apply hin;rw [Nat.div_eq_iff hes0];omega
     rw [if_neg hne];obtain⟨y,hy,hh⟩:=g2 hin;have hry:=hc.2 k y (by rw [cy hk2];exact hy);rcases hh with rfl|⟨x,rfl⟩
     . exact hry
     . exact jv (by simp) (fun _=>hry)
  have hc':mK ro own [.a n es (if n=1 then(fun _=>vs)else fun i'=>af (decide (i'=i)) vs (f i'))] (dw cs (i*es) v.cells.toList):=by
   by_cases h1:n=1
   . rw [if_pos h1];refine key _ fun t j sv ht hg hj=>⟨fun _=> .inl hg,fun hne=> ?_⟩
     omega
   . rw [if_neg h1];refine key _ fun t j sv ht hg hj=> ?_
     obtain⟨x1,y1,hx1,hy1,rfl⟩:=m8 hg;refine⟨fun e=> .inr ⟨y1,?_,(Jb.1 hx1).1⟩,fun e=>⟨y1,hy1, .inr ⟨x1,by simp [e]⟩⟩⟩;rw [J0,hx1];simp [e]
  obtain⟨cs',e1,e2⟩:=l7 h hc' hi hr;exact⟨cs',by rw [AR (off:=i*es) (n:=es) rfl (by rw [v1,hlen]) (by rw [hsz];omega)];exact e1,e2⟩
 |[],_::_,_,_,_,_,_,hi,_=>by simp at hi
 |_::_,[],_,_,_,_,_,hi,_=>by simp at hi
theorem AJ (h:bA E ro own s w a) {parts:Array (Nat×Operand)} {k:List SV->Tx} {ws} (hk:(jI (parts.toList.map (·.2)) k).ok s ws):
 ∃xs,(k xs).ok s ws/\((parts.toList.map (·.1)).zip xs).map (·.1)=((parts.map fun(i,x)=>(i,a.eval x)).toList).map (·.1)/\aQ ro own (((parts.toList.map (·.1)).zip xs).map (·.2)) (((parts.map fun(i,x)=>(i,a.eval x)).toList).map (·.2)):=by
 obtain⟨xs,hr,hk⟩:=ku h hk;have hl:=hr.length;simp at hl;refine⟨xs,hk,?_,?_⟩
 . rw [List.map_fst_zip (by simp [hl])];simp [Xo]
 . rw [List.map_snd_zip (by simp [hl])];simpa [Xo]using hr
theorem UU (h:bA E ro own s w a) {o:Oper} {T:TypeId} {parts:Array (Nat×Operand)} (ho:o.op= .build T parts) {ws}
 (hk:(jI (parts.toList.map (·.2)) fun xs=>CG P E.N o.dst T ((parts.toList.map (·.1)).zip xs)).ok s ws):fW E P o s w a ws:=by
 obtain⟨xs,hk,hidx,hrel⟩:=AJ h hk;unfold CG at hk;split at hk
 case h_2=>exact hk.elim
 rename_i l z hz;obtain⟨hrun,hs,hh⟩:=nF (ro:=ro) (own:=own) hz;split at hk
 . rename_i l0 fs hT;split at hk
   case isFalse=>exact hk.elim
   rename_i hall;split at hk
   case h_2=>exact hk.elim
   rename_i l' hl';obtain⟨cs',e1,e2⟩:=wk hT hl' ⟨hs,hh⟩ hidx hrel;refine aP h (v:= .agg cs') ?_ (.agg _ _ _ e2.1 e2.2) hk;unfold execOp;have hm:=qM (P:=P) (w:=w) fs.toList hall;have e3:(fun i:Nat=>(fs[i]?).map fun(f:Field)=>(f.offset,(cw P f.type).getD 0))=fun i=>(fs.map fun(f:Field)=>(f.offset,(cw P f.type).getD 0))[i]?:=by
    funext i;simp
   rw [e3]at e1;simp only [ho,Instr.build,Sem.run_bind,hrun,Result.andThen_ok,run_underlying hT,Array.mapM_eq_mapM_toList,Sem.run_map,hm];rw [show(List.map (fun f=>(f.offset,(cw P f.type).getD 0)) fs.toList).toArray=fs.map fun f=>(f.offset,(cw P f.type).getD 0)from Array.ext' (by simp),e1];rfl
 . rename_i n e n' es f hT;split at hk
   case isFalse=>exact hk.elim
   rename_i hc;obtain⟨rfl,hes⟩:=hc;split at hk
   case h_2=>exact hk.elim
   rename_i f' hf';obtain⟨cs',e1,e2⟩:=l7 hf' ⟨hs,hh⟩ hidx hrel;refine aP h (v:= .agg cs') ?_ (.agg _ _ _ e2.1 e2.2) hk;unfold execOp;simp only [ho,Instr.build,Sem.run_bind,hrun,Result.andThen_ok,run_underlying hT,aS hes,e1,Sem.run_pure]
 . exact hk.elim
theorem gl {e:TypeId} {z:List SV} (h:gi P e=some z): ∃zv,(∀w:World,(zeroValue e).run P w= .ok zv w)/\zv.cells.size=z.length/\ ∀(k:Nat) (sv:SV),z[k]?=some sv->Rel ro own sv (zv.cells.getD k undef):=by
 unfold gi at h;split at h
 case h_2=>cases h
 rename_i l zv hz;have hl:=jk h;obtain⟨h1,h2,h3⟩:=nF (ro:=ro) (own:=own) hz;subst hl;exact⟨zv,h1,by rw [h2,fY],fun k sv hk=>h3 k sv (by rw [lj];exact hk)⟩
theorem Cg {z:List SV} {zv:Array Value} {n es:Nat} (hz:zv.size=z.length) (hes:z.length=es) (h: ∀(k:Nat) (sv:SV),z[k]?=some sv->Rel ro own sv (zv.getD k undef)):
 mK ro own [.a n es fun _=>z] ((Array.range (n*es)).map (zv[· %zv.size]!)):=by
 refine⟨by simp [aa,ar.size],fun k sv hk=> ?_⟩;have hk2:k<n*es:=by have:=cK hk;simpa [aa,ar.size]using this
 rw [cy hk2]at hk;have hes0:0<es:=by
  rcases Jw es with h0|h0
  . subst h0;simp at hk2
  . exact h0
 have:=h _ sv hk;have hm:k%es<zv.size:=by rw [hz,hes];exact Ki _ hes0
 have e:((Array.range (n*es)).map (zv[· %zv.size]!)).getD k undef=zv.getD (k%es) undef:=by
  have hm':k%zv.size<zv.size:=by rw [hz,hes];exact Ki _ hes0
  simp only [Jf,Array.getElem?_map,Array.getElem?_range,hk2,if_true,K4,K5];rw [getElem!_pos zv _ hm',getElem?_pos zv _ hm];simp only [K5]
  congr 1
  rw [hz,hes]
 rw [e];exact this
theorem za (h:bA E ro own s w a) {o:Oper} {nid:Nat} {T:TypeId} {len:Nat} {parts:Array (Nat×Operand)} (ho:o.op= .buildSlice T len parts) {ws}
 (hk:(jI (parts.toList.map (·.2)) fun xs=>dS P E.N nid o.dst T len ((parts.toList.map (·.1)).zip xs)).ok s ws):fW E P o s w a ws:=by
 obtain⟨xs,hk,hidx,hrel⟩:=AJ h hk;unfold dS at hk;split at hk
 case h_2=>exact hk.elim
 rename_i e hT;split at hk
 case h_2=>exact hk.elim
 rename_i z es hz hes;split at hk
 case isFalse=>exact hk.elim
 rename_i hc;obtain⟨hc1,hc2,hc3⟩:=hc;split at hk
 case h_2=>exact hk.elim
 rename_i f hf;obtain⟨zv,z1,z2,z3⟩:=gl (ro:=ro) (own:=own) hz;have hzr:mK ro own [.a len es fun _=>z] ((Array.range (len*es)).map ((if len*es=0 then #[]else zv.cells)[· %(if len*es=0 then #[]else zv.cells).size]!)):=by
  by_cases h0:len*es=0
  . refine⟨by simp [aa,ar.size],fun k sv hk=> ?_⟩;have:=cK hk;simp [aa,ar.size]at this;omega
  . simp only [h0,if_false];exact Cg z2 hc1 z3
 obtain⟨cs',e1,e2⟩:=l7 hf hzr hidx hrel;have hcs:cs'.size=len*es:=by rw [e2.1];simp [aa,ar.size]
 refine qU h (cap:=len) (v:= .slice (some ⟨w.heap.size,0,none⟩) len len) (w':=w.alloc (.cells cs' e)) (lo:=0) (hi:=0) rfl rfl rfl rfl ?_ (fun _=>⟨len,f,rfl,J1 _,hcs⟩) (by simp) (by rw [e2.1];exact J1 _) (.inl (J1 _)) ?_ e2.2 ?_ hk
 . unfold execOp;simp only [ho,Instr.buildSlice,Sem.run_bind,run_underlying hT,Result.andThen_ok,aS hes];rw [if_neg (by omega)]
   by_cases h0:len*es=0
   . simp only [h0,if_true]at e1;simp only [h0,if_true,Sem.run_pure,Result.andThen_ok,e1,newRow,Sem.run_bind,run_newObj];rfl
   . simp only [h0,if_false]at e1;simp only [h0,if_false,Sem.run_bind,z1,Result.andThen_ok,Sem.run_pure,e1,newRow,run_newObj];rfl
 . rintro t ht;simp at ht;refine⟨rfl,rfl,ht,?_⟩;have:len<=len*es:=Nat.le_mul_of_pos_right _ hc2;unfold maxLen;omega
 . intro own' k1 k2 k3 k4;have:=Rel.sl (ro:=ro) own' nid 0 0 len w.heap.size k1 (by rw [k2];omega);rw [k2]at this;simpa using this
theorem Al (h:bA E ro own s w a) {o:Oper} {nid:Nat} {T:TypeId} {x y:Operand} (ho:o.op= .makeSlice T x y) {ws} (hk:(fR x fun x=>fR y fun y=>pt P E.N nid o.dst T x y).ok s ws):fW E P o s w a ws:=by
 obtain⟨x',hx,hk1⟩:=aZ h hk;clear hk;obtain⟨y',hy,hk⟩:=aZ h hk1;clear hk1;unfold pt at hk;split at hk
 case h_2=>exact hk.elim
 rename_i e n n' hT;split at hk
 case h_2=>exact hk.elim
 rename_i z i hz hi;split at hk
 case isFalse=>exact hk.elim
 rename_i hc;obtain⟨hc1,hc2⟩:=hc;obtain⟨⟨rfl,hn0,hn1,hn2⟩,hk⟩:=hk;obtain⟨zv,z1,z2,z3⟩:=gl (ro:=ro) (own:=own) hz;obtain⟨m,rfl⟩:=Q8 hn0;have hm:(m:Int).toNat=m:=by simp
 simp only [Int.ofNat_eq_natCast,hm]at hk;have hzr:=Cg (ro:=ro) (own:=own) (n:=m) z2 hc1 z3;have hzi:i.zero=some zv:=by
  have:=z1 w;simp only [zeroValue,Sem.run_bind,qF hi,Result.andThen_ok]at this;cases hq:i.zero with
  |none=>rw [hq]at this;simp at this
  |some q=>rw [hq]at this;simp at this;rw [this]
 have hrun:=run_make (P:=P) w T e i zv hT hi hzi .i64 .i64 m m (by omega) (by omega) (by simpa using hn2) (by omega);have hmc:madeCells zv.cells (m*i.size)=(Array.range (m*i.size)).map (zv.cells[· %zv.cells.size]!):=rfl;refine qU h (cap:=m) (v:= .slice (some ⟨w.heap.size,0,none⟩) m m) (w':=w.alloc (.cells (madeCells zv.cells (m*i.size)) e)) (lo:=0) (hi:=0) rfl rfl rfl rfl ?_ (fun _=>⟨m,_,rfl,J1 _,by simp [madeCells]⟩) (by simp) (by simp [madeCells,aa,ar.size]) (.inl (J1 _)) ?_ (by rw [hmc];exact hzr.2) ?_ hk
 . unfold execOp;rw [ho];simp only [aK hx,aK hy,Sem.run_bind];simp only [K7]at hrun;rw [hrun];rfl
 . rintro t ht;simp at ht;exact⟨rfl,rfl,ht,by unfold maxLen;omega⟩
 . intro own' k1 k2 k3 k4;have:=Rel.sl (ro:=ro) own' nid 0 0 m w.heap.size k1 (by rw [k2];omega);rw [k2]at this;simpa using this
end
end Go.Sx
namespace Go.Sx
open Go Go.RowKit
variable [bW]
section
variable {E : Env} {P : Program} {ro : RO} {own : Own} {s : St} {w : World} {a : Act}
theorem ud (h:bA E ro own s w a) {o:Option Operand} {k:Option SV->Tx} {ws} (hk:(kf.rdOpt o k).ok s ws): ∃x,(x=none↔o=none)/\(∀y o',x=some y->o=some o'->Rel ro own y (a.eval o'))/\(k x).ok s ws:=by
 cases o with
 |none=>exact⟨none,by simp,by simp,hk⟩
 |some o=>
  obtain⟨x,hx,hk⟩:=aZ h hk;exact⟨some x,by simp,fun y o' e1 e2=>by simp at e1 e2;subst e1;subst e2;exact hx,hk⟩
theorem run_sliceBound {x:Value} {y:Nat} {code:BoundsCode} {k:IntKind} {i:Int} (hx:x= .int k i) (h0:0<=i) (h1:i<=(y:Int)):(Instr.sliceBound x y code).run P w= .ok i.toNat w:=by
 simp [Instr.sliceBound,hx,asIntOf,h0,h1]
theorem oQ {isS:Bool} {len cap:Nat} {lo hi:Option SV} {l h:Int} {lov hiv:Option Value} (hlo:Dc lo=some l) (hhi:CW len hi=some h) (hl: ∀y,lo=some y-> ∃v,lov=some v/\Rel ro own y v) (hl0:lo=none->lov=none)
 (hh: ∀y,hi=some y-> ∃v,hiv=some v/\Rel ro own y v) (hh0:hi=none->hiv=none) (h1:0<=l) (h2:l<=h) (h3:h<=(len:Int)) (hcap:len<=cap):
 (Instr.sliceBounds isS len cap lov hiv none).run P w= .ok (l.toNat,h.toNat,cap) w:=by
 have eh:(hiv=none/\h=(len:Int))\/ ∃k,hiv=some (.int k h):=by
  unfold CW at hhi;split at hhi
  . simp at hhi;exact .inl ⟨hh0 rfl,hhi.symm⟩
  . simp at hhi;subst hhi;obtain⟨v,e,hr⟩:=hh _ rfl;exact .inr ⟨_,by rw [e,aK hr]⟩
  . cases hhi
 have el:(lov=none/\l=0)\/ ∃k,lov=some (.int k l):=by
  unfold Dc at hlo;split at hlo
  . simp at hlo;exact .inl ⟨hl0 rfl,hlo.symm⟩
  . simp at hlo;subst hlo;obtain⟨v,e,hr⟩:=hl _ rfl;exact .inr ⟨_,by rw [e,aK hr]⟩
  . cases hlo
 clear hl hl0 hh hh0 hlo hhi;rcases eh with⟨rfl,rfl⟩|⟨k,rfl⟩<;>rcases el with⟨rfl,rfl⟩|⟨k',rfl⟩
 . simp [Instr.sliceBounds]
 . have:=run_sliceBound (P:=P) (w:=w) (x:= .int k' l) (y:=len) (code:= .sliceB) rfl h1 h2;simp [Instr.sliceBounds,this]
 . have:=fun code=>run_sliceBound (P:=P) (w:=w) (x:= .int k h) (y:=cap) (code:=code) rfl (by omega) (by omega)
   simp [Instr.sliceBounds,this]
 . have e1:=fun code=>run_sliceBound (P:=P) (w:=w) (x:= .int k h) (y:=cap) (code:=code) rfl (by omega) (by omega)
   have e2:=run_sliceBound (P:=P) (w:=w) (x:= .int k' l) (y:=h.toNat) (code:= .sliceB) rfl h1 (by omega);simp [Instr.sliceBounds,e1,e2]
theorem Lh (h:bA E ro own s w a) {o:Oper} {T:TypeId} {x:Operand} {lo hi:Option Operand} (ho:o.op= .slice T x lo hi none) {ws}
 (hk:(fR x fun x=>kf.rdOpt lo fun lo=>kf.rdOpt hi fun hi=>Cv P E.N o.dst T x lo hi).ok s ws):fW E P o s w a ws:=by
 obtain⟨x',hx,hk1⟩:=aZ h hk;clear hk;obtain⟨lo',hl0,hl1,hk2⟩:=ud h hk1;clear hk1;obtain⟨hi',hh0,hh1,hk⟩:=ud h hk2;clear hk2;have bounds: ∀{isS:Bool} {len cap:Nat} {l u:Int},Dc lo'=some l->CW len hi'=some u->0<=l->l<=u->u<=(len:Int)->len<=cap->(Instr.sliceBounds isS len cap (lo.map a.eval) (hi.map a.eval) none).run P w= .ok (l.toNat,u.toNat,cap) w:=by
  intro isS len cap l u e1 e2 h1 h2 h3 h4;refine oQ (ro:=ro) (own:=own) e1 e2 (fun y hy=> ?_) (fun e=>by rw [hl0.1 e];rfl) (fun y hy=> ?_) (fun e=>by rw [hh0.1 e];rfl) h1 h2 h3 h4
  . cases lo with
    |none=>rw [hl0.2 rfl]at hy;cases hy
    |some o'=>exact⟨_,rfl,hl1 y o' hy rfl⟩
  . cases hi with
    |none=>rw [hh0.2 rfl]at hy;cases hy
    |some o'=>exact⟨_,rfl,hh1 y o' hy rfl⟩
 have go: ∀{v:Value} {z:SV},(Instr.sliceAt T (a.eval x) (lo.map a.eval) (hi.map a.eval) none).run P w= .ok v w->Rel ro own z v->(bm E.N o.dst z).ok s ws->fW E P o s w a ws:=by
  intro v z hrun hr hk;refine aP h (v:=v) ?_ hr hk;unfold execOp;simp [ho,hrun]
 unfold Cv at hk;split at hk
 . rename_i st hT;split at hk
   case h_2=>exact hk.elim
   rename_i l u e1 e2;obtain⟨⟨h1,h2,h3⟩,hk⟩:=hk;have hv:=dR hx;have hb:=bounds (isS:=false) (cap:=st.length) e1 e2 h1 h2 h3 (J1 _);have hsz:(⟨st.toArray⟩:ByteArray).size=st.length:=rfl;refine go (v:= .string ⟨((st.take u.toNat).drop l.toNat).toArray⟩) ?_ (.str _ _) hk;have hex:(⟨st.toArray⟩:ByteArray).extract l.toNat u.toNat=⟨((st.take u.toNat).drop l.toNat).toArray⟩:=by
    apply ByteArray.ext;rw [ByteArray.data_extract];apply Array.ext';simp [List.drop_take]
   rw [hv];simp [Instr.sliceAt,run_underlying hT,Instr.slice,hsz,hb,hex]
 . rename_i e es len f hT;split at hk
   case h_2=>exact hk.elim
   rename_i l u e1 e2;split at hk
   case isFalse=>exact hk.elim
   rename_i hes;obtain⟨⟨h1,h2,h3⟩,hk⟩:=hk;rcases dE hx with⟨hl,A,cap,hv⟩|⟨b,k0,cap,vs,hv,hcap,hl,hm,hh⟩
   . have hu0:u=0:=by omega
     have hl0':l=0:=by omega
     subst hu0;subst hl0';have hb:=bounds (isS:=true) (len:=0) (cap:=cap) e1 (by rw [<-hl];exact e2) (by omega) (by omega) (by omega) (by omega);rw [hv]at go;refine go (v:= .slice A 0 cap) ?_ (.fe _ _ _ _ _ _ (by simp)) hk;simp only [Instr.sliceAt,Sem.run_bind,run_underlying hT,Result.andThen_ok,Instr.slice,hb,aS hes,Sem.run_pure]
     congr 2
     split
     . rfl
     . cases A<;>simp [Addr.add]
   . have hb:=bounds (isS:=true) (cap:=cap) e1 e2 h1 h2 h3 hcap;rw [hv]at go;refine go (v:= .slice (if cap=l.toNat then some ⟨b,k0,none⟩else some ⟨b,k0+l.toNat*es,none⟩) (u.toNat-l.toNat) (cap-l.toNat)) ?_ ?_ hk
     . simp only [Instr.sliceAt,Sem.run_bind,run_underlying hT,Result.andThen_ok,Instr.slice,hb,aS hes,Sem.run_pure,K4,dU]
     . have hsub:(u-l).toNat=u.toNat-l.toNat:=by omega
       rw [hsub]
       by_cases hc:cap=l.toNat
       . rw [if_pos hc];have:u.toNat-l.toNat=0:=by omega
         rw [this];exact .fe _ _ _ _ _ _ rfl
       . rw [if_neg hc];refine .aI _ _ _ _ b (k0+l.toNat*es) (cap-l.toNat) (fun k=>vs (l.toNat*es+k)) (by omega) (fun i hi=>hl _ (by omega)) (fun k hk=> ?_) (fun i j sv hi hj=> ?_)
         . rw [Kt];refine hm _ ?_;have h5:(l.toNat+(u.toNat-l.toNat))*es<=len*es:=Jl _ (by omega);rw [Ji]at h5;omega
         . have:=hh (l.toNat+i) j sv (by omega) hj;rw [Ji]at this;rw [<-Nat.add_assoc];exact this
 . rename_i e id aD off len hT;split at hk
   case h_2=>exact hk.elim
   rename_i l u e1 e2;obtain⟨m,hm,hk⟩:=fG hk;have he:=h.gK id m hm;split at hk
   case isFalse=>exact hk.elim
   rename_i hc;obtain⟨hrow,hes⟩:=hc;split at hk
   . rename_i y _ _;obtain⟨⟨h1,h2⟩,hk3⟩:=hk;have hl0':l=0:=by simp [Dc]at e1;omega
     subst hl0';rcases fH hx with⟨b,hb,hcap,hv⟩|⟨hb,hl,ho0,hv⟩
     . have hbb:=bounds (isS:=true) (cap:=own.cap id aD-off) e1 e2 (by omega) h1 h2 (by omega);rw [hv]at go;refine go (v:= .slice (some ⟨b,off*own.es id 0,none⟩) u.toNat (own.cap id aD-off)) ?_ (.sl _ _ _ _ _ _ hb (by omega)) hk3;simp [Instr.sliceAt,run_underlying hT,Instr.slice,hbb,aS hes,dU]
     . subst hl;have hu0:u=0:=by omega
       subst hu0;have hbb:=bounds (isS:=true) (len:=0) (cap:=0) e1 e2 (by omega) (by omega) (by simp) (by omega);rw [hv]at go;refine go (v:= .slice none 0 0) ?_ (.Es _ _ _ _ _ hb rfl ho0) hk3;simp [Instr.sliceAt,run_underlying hT,Instr.slice,hbb,aS hes]
   . rename_i y _ _;simp only [Dx,Tx.ok]at hk;split at hk
     case h_2=>exact hk.elim
     split at hk
     case h_2=>exact hk.elim
     split at hk
     case isFalse=>exact hk.elim
     rename_i es0 f0 _;obtain⟨h1,hk3⟩:=hk;have hu0:u=(len:Int):=by simp [CW]at e2;omega
     subst hu0;subst h1;rcases fH hx with⟨b,hb,hcap,hv⟩|⟨hb,hl,ho0,hv⟩
     . have hbb:=bounds (isS:=true) (cap:=own.cap id aD-off) e1 e2 (by omega) (by omega) (by omega) (by omega);rw [hv]at go;refine go (v:= .slice (if own.cap id aD-off=len then some ⟨b,off*own.es id 0,none⟩else some ⟨b,off*own.es id 0+len*m.es,none⟩) 0 (own.cap id aD-off-len)) ?_ (.fe _ _ _ _ _ _ rfl) hk3;simp [Instr.sliceAt,run_underlying hT,Instr.slice,hbb,aS hes,dU]
     . subst hl;have hbb:=bounds (isS:=true) (len:=0) (cap:=0) e1 e2 (by omega) (by omega) (by simp) (by omega);rw [hv]at go;refine go (v:= .slice none 0 0) ?_ (.fe _ _ _ _ _ _ rfl) hk3;simp [Instr.sliceAt,run_underlying hT,Instr.slice,hbb,aS hes]
   obtain⟨⟨h1,h2,h3⟩,hk⟩:=hk;rcases fH hx with⟨b,hb,hcap,hv⟩|⟨_,hl,_,_⟩
   case inr=>omega
   obtain⟨n,f,hseg,_⟩:=he.row hrow;have e0:own.es id 0=m.es:=by rw [he.es 0 (.a n m.es f) (by rw [hseg];rfl)];rfl
   have hbb:=bounds (isS:=true) (cap:=own.cap id aD-off) e1 e2 h1 (by omega) h3 (by omega);rw [hv]at go;refine go (v:= .slice (some ⟨b,off*own.es id 0+l.toNat*m.es,none⟩) (u.toNat-l.toNat) (own.cap id aD-off-l.toNat)) ?_ ?_ hk
   . simp only [Instr.sliceAt,Sem.run_bind,run_underlying hT,Result.andThen_ok,Instr.slice,hbb,aS hes,Sem.run_pure,K4,dU];rw [if_neg (by omega)]
   . have:=Rel.sl (ro:=ro) own id aD (off+l.toNat) (u-l).toNat b hb (by omega);rw [e0,Ji]at this;rw [e0];have e3:(u-l).toNat=u.toNat-l.toNat:=by omega
     have e4:own.cap id aD-off-l.toNat=own.cap id aD-(off+l.toNat):=by omega
     rw [e3]at this⊢;rw [e4];exact this
 . exact hk.elim
theorem run_len {T:TypeId} {x:SV} {v:Value} {n:Int} (h:Rel ro own x v) {N:Nat} {dst:Option Tmp} {ws} (hk:(Oh P N dst T x).ok s ws): ∃n:Int,(Builtin.len_ #[T] 0 #[v]).run P w= .ok (.int .i64 n) w/\(bm N dst (.int .i64 n)).ok s ws:=by
 unfold Oh at hk;split at hk
 . rename_i st hT;refine⟨_,?_,hk⟩;rw [dR h];simp [Builtin.len_,run_underlying hT,goInt];rfl
 . rename_i n' e hT;refine⟨_,?_,hk⟩;cases v<;>simp [Builtin.len_,run_underlying hT,goInt]
 . rename_i e es len f hT;refine⟨_,?_,hk⟩;rcases dE h with⟨hl,A,cap,hv⟩|⟨b,k0,cap,vs,hv,_⟩
   . subst hl;rw [hv];simp [Builtin.len_,run_underlying hT,goInt]
   . rw [hv];simp [Builtin.len_,run_underlying hT,goInt]
 . rename_i e id aD off len hT;refine⟨_,?_,hk⟩;rcases fH h with⟨b,_,_,hv⟩|⟨_,hl,_,hv⟩
   . rw [hv];simp [Builtin.len_,run_underlying hT,goInt]
   . subst hl;rw [hv];simp [Builtin.len_,run_underlying hT,goInt]
 . rename_i e hT;refine⟨_,?_,hk⟩;rw [gh h];simp [Builtin.len_,run_underlying hT,goInt]
 . exact hk.elim
theorem DY {len cap:Nat} {h:Int} {k k':IntKind} (h0:0<=h) (h1:h<=(cap:Int)):(Instr.sliceBounds true len cap none (some (.int k h)) (some (.int k' h))).run P w= .ok (0,h.toNat,h.toNat) w:=by
 have e1:=run_sliceBound (P:=P) (w:=w) (x:= .int k' h) (y:=cap) (code:= .slice3Acap) rfl h0 h1;have e2:=run_sliceBound (P:=P) (w:=w) (x:= .int k h) (y:=h.toNat) (code:= .slice3B) rfl h0 (by omega);simp [Instr.sliceBounds,e1,e2]
theorem GI (h:bA E ro own s w a) {o:Oper} {T:TypeId} {x hi mx:Operand} (ho:o.op= .slice T x none (some hi) (some mx)) {ws}
 (hk:(fR x fun x=>fR hi fun hi=>fR mx fun mx=>yP P E.N o.dst T x hi mx).ok s ws):fW E P o s w a ws:=by
 obtain⟨x',hx,hk1⟩:=aZ h hk;clear hk;obtain⟨hi',hhi,hk2⟩:=aZ h hk1;clear hk1;obtain⟨mx',hmx,hk⟩:=aZ h hk2;clear hk2;unfold yP at hk;split at hk
 case h_2=>exact hk.elim
 rename_i e es len f k u k' m' hu;split at hk
 case isFalse=>exact hk.elim
 rename_i hes;obtain⟨⟨rfl,h0,h1⟩,hk⟩:=hk;have hhi:=aK hhi;have hmx:=aK hmx;have run: ∀{A:Option Addr} {n cap:Nat},a.eval x= .slice A n cap->u<=(cap:Int)->(execOp a.eval o).run P w= .ok (.value (.slice A u.toNat u.toNat)) w:=by
  intro A n cap hv hcp;have hb:=DY (P:=P) (w:=w) (len:=n) (k:=k) (k':=k') h0 hcp;unfold execOp;simp [ho,Instr.sliceAt,run_underlying hu,Instr.slice,hv,hhi,hmx,hb,aS hes];intro hne;cases A<;>simp [Addr.add]
 rcases dE hx with⟨hl,A,cap,hv⟩|⟨b,k0,cap,vs,hv,hcap,hl,hm,hh⟩
 . have hu0:u=0:=by omega
   subst hu0;exact aP h (run hv (by omega)) (.fe _ _ _ _ _ _ rfl) hk
 . refine aP h (run hv (by omega)) (.aI _ _ _ _ b k0 _ vs (J1 _) (fun i hi=>hl i (by omega)) (fun k hk=>hm k ?_) fun i j sv hi=>hh i j sv (by omega)) hk;have:=Jl es (show u.toNat<=len by omega);omega
end
end Go.Sx
namespace Go.Sx
open Go Go.RowKit
variable [bW]
section
variable {E : Env} {P : Program} {ro : RO} {own : Own} {s : St} {w : World} {a : Act}
theorem bA.grow (h:bA E ro own s w a) {w':World} {ob:Option Nat} (hg:w.grownBy w' ob) {id n es cap:Nat} {f:Nat->List SV} {e:TypeId} (aD ns:Nat) (hns:ns=1)
 (hob: ∀b,ob=some b-> ∃m,s (.mt id)= .m (some m)/\m.gN=false/\own.env id m.aD=some (some b))
 (hnew: ∀ver',aD<=ver'->own.env id ver'=none)
 (st es':Nat->Nat) (hst: ∀ver' x q,own.env id ver'=some x->st q=own.st id q/\es' q=own.es id q) (hst0:st 0=0) (hes0:es' 0=es)
 {sh:List (Option (Nat×Nat))} {blk:Option Nat} (hnil:blk=none->n=0)
 (hblk: ∀b,blk=some b->E.B<=b/\(some b=ob\/b=w.heap.size)/\n<=cap/\cap<=maxLen/\ ∃cs,w'.heap[b]?=some (.cells cs e (0,0))/\cs.size=cap*es/\(∀own':Own,own.le own'-> ∀k sv,flat [.a n es f] k=some sv->Rel ro own' sv (cs.getD k undef))):
 ∃own',own.le own'/\own'.env id aD=some blk/\own'.cap id aD=cap/\own'.es id 0=es/\
  bA E ro own' (s.apply [(.mt id, .m (some ⟨aD,false,true,some e,ns,es,sh⟩)),(.sg id 0, .s (.a n es f))]) w' a:=by
 subst hns
 let own':Own:={env:=fun i v=>if i=id/\v=aD then some blk else own.env i v,cap:=fun i v=>if i=id/\v=aD then cap else own.cap i v,st:=fun i q=>if i=id then st q else own.st i q,es:=fun i q=>if i=id then es' q else own.es i q}
 have hne: ∀i v x,own.env i v=some x-> ¬(i=id/\v=aD):=by
  rintro i v x hx ⟨rfl,rfl⟩;rw [hnew v (J1 _)]at hx;cases hx
 have hle:own.le own':=by
  refine⟨fun i v x hx=> ?_,fun i v x hx=> ?_,fun i v x q hx=> ?_,fun i v x q hx=> ?_⟩
  . simp only [own',hne i v x hx,if_false,hx]
  . simp only [own',hne i v x hx,if_false]
  . by_cases hi:i=id
    . subst hi;simp only [own',if_true];exact(hst v x q hx).1
    . simp only [own',hi,if_false]
  . by_cases hi:i=id
    . subst hi;simp only [own',if_true];exact(hst v x q hx).2
    . simp only [own',hi,if_false]
 have hlt: ∀i m b,s (.mt i)= .m (some m)->m.gN=false->own.env i m.aD=some (some b)->b<w.heap.size:=by
  intro i m b hm hfz' hb;obtain⟨cs',e',lo',hi',hh,_⟩:=((h.gK i m hm).live b hb hfz').body;exact(K3.1 hh).1
 have hro: ∀b o v,ro b o=some v->b<w.heap.size/\some b≠ob:=by
  intro b o v hv;refine⟨block_lt_of_cell (h.cJ _ _ _ hv).1,fun e1=> ?_⟩;obtain⟨m,hm,hz,hb⟩:=hob b e1.symm;have:=((h.gK id m hm).live b hb hz).apart o;rw [hv]at this;cases this
 have hother: ∀i m b,i≠id->s (.mt i)= .m (some m)->m.gN=false->own.env i m.aD=some (some b)->w'.heap[b]?=w.heap[b]?/\some b≠ob:=by
  intro i m b hi hm hz hb;have hne:some b≠ob:=by
   intro e1;obtain⟨m',hm',hz',hb'⟩:=hob b e1.symm;exact hi (h.inj i id m m' b hm hm' hz hz' hb hb')
  exact⟨hg.block b (hlt i m b hm hz hb) hne,hne⟩
 have hmt: ∀i,i≠id->(s.apply [(.mt id, .m (some ⟨aD,false,true,some e,1,es,sh⟩)),(.sg id 0, .s (.a n es f))]) (.mt i)=s (.mt i):=by
  intro i hi;simp only [St.apply,St.put];rw [if_neg (by simp),if_neg (by simpa using hi)]
 have hmn:(s.apply [(.mt id, .m (some ⟨aD,false,true,some e,1,es,sh⟩)),(.sg id 0, .s (.a n es f))]) (.mt id)= .m (some ⟨aD,false,true,some e,1,es,sh⟩):=by
  simp [St.apply,St.put]
 have hsg: ∀i k,i≠id->(s.apply [(.mt id, .m (some ⟨aD,false,true,some e,1,es,sh⟩)),(.sg id 0, .s (.a n es f))]).az i k=s.az i k:=by
  intro i k hi;refine St.dc fun q _=> ?_
  simp only [St.apply,St.put];rw [if_neg (by simp [hi]),if_neg (by simp)]
 have hsn:(s.apply [(.mt id, .m (some ⟨aD,false,true,some e,1,es,sh⟩)),(.sg id 0, .s (.a n es f))]).az id 1=[.a n es f]:=by
  simp [St.az,Q7,St.uC,St.apply,St.put]
 refine⟨own',hle,by simp [own'],by simp [own'],by simp [own',hes0],?_⟩;refine {below:= ?_,base:=Jn h.base hg.size,defs:=h.defs,size:=h.size,tm:= ?_,cJ:= ?_,ee:=h.ee,gK:= ?_,fr:= ?_,mY:= ?_,inj:= ?_,kk:=E.mono _ _ _ _ hle (.refl _) h.kk,mp:=h.mp' (.refl _) hle (fun i m' h1 h2=>by
  by_cases hi:i=id
  . subst hi;rw [hmn]at h1;simp only [Item.m.injEq,J3]at h1;subst h1;simp [cz]at h2
  . rw [hmt i hi]at h1;refine⟨h1,fun n' e' f' h3=> ?_⟩;simp only [St.apply,St.put]at h3;rw [if_neg (by simp [hi]),if_neg (by simp)]at h3;exact h3) (fun b o _ hnc h5=>by
    rw [hg.block b (K3.1 h5).1 fun e1=> ?_]
    . exact h5
    . obtain⟨m',hm',hz',hb'⟩:=hob b e1.symm;obtain⟨cs',e',lo',hi',hh,_⟩:=((h.gK id m' hm').live b hb' hz').body;rw [hh]at h5;simp at h5;exact hnc _ _ _ h5.symm)}
 . refine h.below.trans ⟨hg.os,hg.tape,hg.output,hg.size,fun k hk=>hg.block k (by have:=h.base;omega) fun e1=> ?_⟩;obtain⟨m,hm,hz,hb⟩:=hob k e1.symm;have:=((h.gK id m hm).live k hb hz).low;omega
 . intro t sv ht;have e1:(s.apply [(.mt id, .m (some ⟨aD,false,true,some e,1,es,sh⟩)),(.sg id 0, .s (.a n es f))]) (.tm t)=s (.tm t):=by simp [St.apply,St.put]
   rw [e1]at ht;exact(h.tm t sv ht).own hle
 . intro b o v hv;obtain⟨h1,h2⟩:=hro b o v hv;exact(h.cJ b o v hv).of_heap (hg.block b h1 h2)
 . intro i m hm
   by_cases hi:i=id
   . subst hi;rw [hmn]at hm;simp only [Item.m.injEq,J3]at hm;subst hm;rw [hsn];refine {st:= ?_,es:= ?_,row:=fun _=>⟨n,f,rfl,?_⟩,plain:=fun hr=>by simp at hr,there:=⟨blk,by simp [own']⟩,nil:= ?_,live:= ?_,dn:=fun b _ hz=>by cases hz}
     . intro q hq;have:q=0:=by simp only at hq;omega
       subst this;simp [own',hst0,aa]
     . intro q x hx;cases q with
       |zero=>simp at hx;subst hx;simp [own',hes0,ar.es]
       |succ q=>simp at hx
     . intro b hb;simp only [own',and_self,if_true,J3]at hb;simpa [own']using (hblk b hb).2.2.1
     . intro hn;simp only [own',and_self,if_true,J3]at hn;rw [hnil hn];exact⟨rfl,f,rfl⟩
     . intro b hb _;simp only [own',and_self,if_true,J3]at hb;obtain⟨c1,c2,c3,c4,cs,c5,c6,c7⟩:=hblk b hb;refine⟨c1,fun o=> ?_,cs,e,0,0,c5, .inl (J1 _),fun t ht=>⟨rfl,rfl,by simpa using ht,by simpa [own']using c4⟩,?_,fun k sv hk=>c7 own' hle k sv hk,fun hr=>by simp at hr,fun _=>by simp [own',hes0,c6]⟩
       . cases hr:ro b o with
         |none=>rfl
         |some v=>
          obtain⟨h1,h2⟩:=hro b o v hr;rcases c2 with c2|c2
          . exact absurd c2 h2
          . omega
       . simp only [aa,ar.size,c6,Jv];exact Jl _ c3
   . rw [hmt i hi]at hm;rw [hsg i m.ns hi];have he:=h.gK i m hm;have e0: ∀v,own'.env i v=own.env i v:=fun v=>by simp [own',hi]
     have e1: ∀q,own'.st i q=own.st i q:=fun q=>by simp [own',hi]
     have e2: ∀q,own'.es i q=own.es i q:=fun q=>by simp [own',hi]
     have e3: ∀v,own'.cap i v=own.cap i v:=fun v=>by simp [own',hi]
     obtain⟨x0,hx0⟩:=he.there;refine {st:=fun q hq=>by rw [e1];exact he.st q hq,es:=fun q x hx=>by rw [e2];exact he.es q x hx,row:=fun hr=> ?_,plain:=he.plain,there:=⟨x0,by rw [e0];exact hx0⟩,nil:=fun hn=>he.nil (by rw [<-e0];exact hn),live:=fun b hb hz=> ?_,dn:=fun b hb hz=>he.dn b (by rw [<-e0];exact hb) hz}
     . obtain⟨n',f',hl,hn⟩:=he.row hr;exact⟨n',f',hl,fun b hb=>by rw [e3];exact hn b (by rw [<-e0];exact hb)⟩
     . rw [e0]at hb;have hl:=he.live b hb hz;obtain⟨cs',e',lo',hi',hh,r1,r2,r3,r4,r5,r6⟩:=hl.body;exact⟨hl.low,hl.apart,cs',e',lo',hi',by rw [(hother i m b hi hm hz hb).1];exact hh,r1,(fun t ht=>by rw [e3];exact r2 t ht),r3,fun k sv hk=>(r4 k sv hk).own hle,r5,fun hr=>by rw [e3,e2];exact r6 hr⟩
 . intro i hm v
   by_cases hi:i=id
   . subst hi;rw [hmn]at hm;cases hm
   . rw [hmt i hi]at hm;simp only [own',hi,false_and,if_false];exact h.fr i hm v
 . intro i m hm v hv
   by_cases hi:i=id
   . subst hi;rw [hmn]at hm;simp only [Item.m.injEq,J3]at hm;subst hm;simp only at hv;simp only [own',true_and,show v≠aD from by omega,if_false];exact hnew v (by omega)
   . rw [hmt i hi]at hm;simp only [own',hi,false_and,if_false];exact h.mY i m hm v hv
 . intro i i' m m' b hm hm' hz hz' hb hb';have self: ∀m1,(s.apply [(.mt id, .m (some ⟨aD,false,true,some e,1,es,sh⟩)),(.sg id 0, .s (.a n es f))]) (.mt id)= .m (some m1)->own'.env id m1.aD=some (some b)->some b=ob\/b=w.heap.size:=by
    intro m1 h1 h2;rw [hmn]at h1;simp only [Item.m.injEq,J3]at h1;subst h1;simp only [own',and_self,if_true,J3]at h2;exact(hblk b h2).2.1
   have far: ∀j m1,j≠id->(s.apply [(.mt id, .m (some ⟨aD,false,true,some e,1,es,sh⟩)),(.sg id 0, .s (.a n es f))]) (.mt j)= .m (some m1)->m1.gN=false->own'.env j m1.aD=some (some b)->some b≠ob/\b<w.heap.size:=by
    intro j m1 hj h1 h2 h3;rw [hmt j hj]at h1;simp only [own',hj,false_and,if_false]at h3;exact⟨(hother j m1 b hj h1 h2 h3).2,hlt j m1 b h1 h2 h3⟩
   by_cases hi:i=id
   . by_cases hi':i'=id
     . rw [hi,hi']
     . subst hi;obtain⟨q1,q2⟩:=far i' m' hi' hm' hz' hb';rcases self m hm hb with q|q
       . exact absurd q q1
       . omega
   . by_cases hi':i'=id
     . subst hi';obtain⟨q1,q2⟩:=far i m hi hm hz hb;rcases self m' hm' hb' with q|q
       . exact absurd q q1
       . omega
     . rw [hmt i hi]at hm;rw [hmt i' hi']at hm';simp only [own',hi,hi',false_and,if_false]at hb hb';exact h.inj i i' m m' b hm hm' hz hz' hb hb'
theorem B5 (h:bA E ro own s w a) {es:Nat} {x:SV} {v:Value} {k:Nat->(Nat->List SV)->Tx} {ws} (hx:Rel ro own x v) (hk:(xL es x k).ok s ws):
 ∃n g,(k n g).ok s ws/\((n=0/\ ∃A c,v= .slice A 0 c)\/ ∃b off c,v= .slice (some ⟨b,off,none⟩) n c/\ ∀i j,i<n->j<es-> ∃u,eb w b (off+(i*es+j)) u/\ ∀sv,(g i)[j]?=some sv->Rel ro own sv u):=by
 unfold xL at hk;split at hk
 . exact⟨_,_,hk, .inl ⟨rfl,_,_,gh hx⟩⟩
 . rename_i es' len f;split at hk
   case isFalse=>exact hk.elim
   rename_i e;subst e;refine⟨_,_,hk,?_⟩;rcases dE hx with⟨hl,A,cap,hv⟩|⟨b,k0,cap,vs,hv,hcap,hl,hm,hh⟩
   . exact .inl ⟨hl,A,cap,hv⟩
   . refine .inr ⟨b,k0,cap,hv,fun i j hi hj=>⟨vs (i*es'+j),?_,fun sv hs=>(hh i j sv hi hs).own (Own.empty_le _)⟩⟩;have:(i+1)*es'<=len*es':=Jl _ hi;rw [Ji]at this;exact h.cJ _ _ _ (hm _ (by omega))
 . rename_i id aD off len;obtain⟨m,hm,hk⟩:=fG hk;have he:=h.gK id m hm;split at hk
   case isFalse=>exact hk.elim
   rename_i hc;obtain⟨hrow,hver,hes⟩:=hc;obtain⟨y,hy,hk⟩:=lf hk;split at hk
   case h_2=>exact hk.elim
   rename_i n es' f;split at hk
   case isFalse=>exact hk.elim
   rename_i hes2;obtain⟨hle,hk⟩:=hk;refine⟨_,_,hk,?_⟩;rcases fH hx with⟨b,hb,hcap,hv⟩|⟨_,hl,_,hv⟩
   . right;obtain⟨n0,f0,hseg,_⟩:=he.row hrow;have hns:m.ns=1:=by
      have:=St.aU s id m.ns;rw [hseg]at this;simpa using this.symm
     have hseg1:s.az id m.ns=[.a n es' f]:=by
      rw [hns];simp [St.az,Q7,hy]
     have hes0:own.es id 0=es:=by rw [he.es 0 (.a n es' f) (by rw [hseg1];rfl)];exact hes2
     refine⟨b,off*own.es id 0,_,hv,fun i j hi hj=> ?_⟩;rw [<-hver]at hb;have hin:(off+i)*es+j<n*es:=by
      have:(off+i+1)*es<=n*es:=Jl _ (by omega);rw [Ji]at this;omega
     obtain⟨u,hu,hr⟩:=h.cellH hm hb (k:=(off+i)*es+j) (by rw [hseg1];simp [aa,ar.size,hes2];exact hin);refine⟨u,?_,fun sv hs=>hr sv ?_⟩
     . rw [hes0,<-Nat.add_assoc,<-Nat.add_mul];exact hu
     . rw [hseg1,cy (by rw [hes2];exact hin)];have:=lM (f:=f) (n:=n) (i:=off+i) (by omega) hj;simp only [ar.at,hin,if_true]at this;rw [hes2,this];exact hs
   . exact .inl ⟨hl,none,0,by rw [hv]⟩
 . exact hk.elim
theorem pJ (h:bA E ro own s w a) {es:Nat} {x:SV} {v:Value} {k:Nat->(Nat->List SV)->Tx} {ws} (hx:Rel ro own x v) (hk:(xL es x k).ok s ws):
 ∃n g,(k n g).ok s ws/\((n=0/\ ∃A c,v= .slice A 0 c)\/ ∃b off c,v= .slice (some ⟨b,off,none⟩) n c/\ ∀i j,i<n->j<es-> ∃u,w.cell? ⟨b,off+(i*es+j),none⟩=some u/\ ∀sv,(g i)[j]?=some sv->Rel ro own sv u):=by
 obtain⟨n,g,h1,h2⟩:=B5 h hx hk;refine⟨n,g,h1,h2.imp id ?_⟩;rintro⟨b,off,c,hv,hc⟩;exact⟨b,off,c,hv,fun i j hi hj=>let⟨u,hu,hr⟩:=hc i j hi hj;⟨u,hu.1,hr⟩⟩
end
end Go.Sx
namespace Go.Sx
open Go Go.RowKit
variable [bW]
structure cS (P : Program) (f : Nat) (c : bB) : Prop where
 fn : ∃ fn, P.funcs[f]? = some fn /\ fn.body.isSome = true /\ (fn.name == "runtime.NumGoroutine") = false
 calls : ∀ args p r, c args = some (p, r) -> p -> ∀ (R : RO) (w : World) (vals : Array Value), (∀ b o v, R b o = some v -> eb w b o v) -> aQ R Own.empty args vals.toList ->
  Calls P f vals w fun e w' => ∃ v R', e = .returned v /\ Rel R' Own.empty r v /\ ga R R' /\ (∀ b o v, R' b o = some v -> eb w' b o v) /\ (∀ b o, b < w.heap.size -> R' b o = R b o) /\ Below w.heap.size w w'
structure VV (R : RO) (B : Nat) (w : World) (e es n : Nat) (f : Nat -> List SV) (v : Value) (b cap : Nat) (cs : Array Value) : Prop where
 val : v = .slice (some ⟨b, 0, none⟩) n cap
 low : B <= b
 apart : ∀ o, R b o = none
 cells : w.heap[b]? = some (.cells cs e (0, 0))
 capm : cap <= maxLen
 size : cs.size = cap * es
 le : n <= cap
 rel : ∀ k sv, flat [.a n es f] k = some sv -> Rel R Own.empty sv (cs.getD k undef)
def BI (R:RO) (B:Nat) (w:World) (e es n:Nat) (f:Nat->List SV) (v:Value):Prop:=(v= .slice none 0 0/\n=0)\/ ∃b cap cs,VV R B w e es n f v b cap cs
def uc (R:RO) (B:Nat) (w:World) (r:SV) (v:Value):Prop:=match r with
 | .Gl e es n f=>BI R B w e es n f v
 | .bp (.Gl e es n f::rs)=> ∃v0 vs,v= .tuple (v0::vs).toArray/\BI R B w e es n f v0/\aQ R Own.empty rs vs
 |r=>Rel R Own.empty r v
def od :SV->Bool
 | .Gl _ _ _ _=>false
 | .bp (.Gl _ _ _ _::_)=>false
 |_=>true
theorem uc.of {R:RO} {B:Nat} {w:World} {r:SV} {v:Value} (h:Rel R Own.empty r v):uc R B w r v:=by
 unfold uc;split
 . cases h
 . cases h with
   |bp _ _ vs hs hv=>have:=hv 0 _ rfl;cases this
 . exact h
theorem uc.plain {R:RO} {B:Nat} {w:World} {r:SV} {v:Value} (h:uc R B w r v) (hp:od r=true):Rel R Own.empty r v:=by
 unfold uc at h;split at h
 . simp [od]at hp
 . simp [od]at hp
 . exact h
structure nh (P : Program) (f : Nat) (c : bB) : Prop where
 fn : ∃ fn, P.funcs[f]? = some fn /\ fn.body.isSome = true /\ (fn.name == "runtime.NumGoroutine") = false
 calls : ∀ args p r, c args = some (p, r) -> p -> ∀ (R : RO) (w : World) (vals : Array Value), (∀ b o v, R b o = some v -> eb w b o v) -> aQ R Own.empty args vals.toList ->
  Calls P f vals w fun e w' => ∃ v R', e = .returned v /\ uc R' w.heap.size w' r v /\ ga R R' /\ (∀ b o v, R' b o = some v -> eb w' b o v) /\ (∀ b o, b < w.heap.size -> R' b o = R b o) /\ Below w.heap.size w w'
theorem cS.x {P:Program} {f:Nat} {c:bB} (h:cS P f c):nh P f c:=by
 refine⟨h.fn,fun args p r hc hp R w vals hR hrel=>(h.calls args p r hc hp R w vals hR hrel).mono ?_⟩;rintro e w' ⟨v,R',h1,h2,h3⟩;exact⟨v,R',h1, .of h2,h3⟩
theorem nh.plain {P:Program} {f:Nat} {c:bB} (h:nh P f c) (hp: ∀args p r,c args=some (p,r)->od r=true):cS P f c:=by
 refine⟨h.fn,fun args p r hc hpp R w vals hR hrel=>(h.calls args p r hc hpp R w vals hR hrel).mono ?_⟩;rintro e w' ⟨v,R',h1,h2,h3⟩;exact⟨v,R',h1,h2.plain (hp _ _ _ hc),h3⟩
section
variable {E : Env} {P : Program} {ro : RO} {own : Own} {s : St} {w : World} {a : Act}
theorem run_append_nil (base:Nat) (t ty e:TypeId) (i:TypeInfo) (size:Nat) (ht:P.underlying t=some (.slice e)) (hi:P.info? e=some i)
 (v:Value) (n:Nat) (xs:List Value) (hown:w.ownsRow base e size v n xs) (c:Nat):(Builtin.append_ #[t,t] ty #[v, .slice none 0 c]).run P w= .ok v w:=by
 rcases hown.2 with⟨rfl,rfl⟩|⟨g,cap,cur,rfl,_,_,hnc,_⟩
 . simp [Builtin.append_,run_underlying ht,sizeOf,typeInfo,hi,Builtin.lenOf,Builtin.firstCells]
 . simp [Builtin.append_,run_underlying ht,sizeOf,typeInfo,hi,Builtin.lenOf,Builtin.firstCells,hnc,storeCells]
theorem x9 (base:Nat) (t ty e:TypeId) (i:TypeInfo) (z:Value) (ht:P.underlying t=some (.slice e)) (hi:P.info? e=some i) (hz:i.zero=some z) (hzs:z.cells.size=i.size) (hsz:0<i.size)
 (v:Value) (n:Nat) (xs:List Value) (hown:w.ownsRow base e i.size v n xs) {u:Value} {k:Nat} {g:Nat->List SV}
 (hu:(k=0/\ ∃A c,u= .slice A 0 c)\/ ∃b off c,u= .slice (some ⟨b,off,none⟩) k c/\ ∀q j,q<k->j<i.size-> ∃x,w.cell? ⟨b,off+(q*i.size+j),none⟩=some x/\ ∀sv,(g q)[j]?=some sv->Rel ro own sv x)
 (hone: ∀j,j<k->mF i.size (g j)=true) (h63:n+k<=140737488355328) (hbytes:(n+k)*i.bytes<=140737488355328) (hbase:base<=w.heap.size):
 ∃v' w' news,(Builtin.append_ #[t,t] ty #[v,u]).run P w= .ok v' w'/\w'.ownsRow base e i.size v' (n+k) (xs++news)/\w.grownBy w' v.ownBlock/\(v'.ownBlock=v.ownBlock\/v'.ownBlock=some w.heap.size)/\
  news.length=k*i.size/\ ∀q j sv,q<k->(g q)[j]?=some sv->Rel ro own sv (news.getD (q*i.size+j) undef):=by
 rcases hu with⟨rfl,A,c,rfl⟩|⟨b,off,c,rfl,hc⟩
 . cases A with
   |none=>exact⟨v,w,[],run_append_nil base t ty e i i.size ht hi v n xs hown c,by simpa using hown,World.grownBy.refl w _, .inl rfl,by simp,by intro q j sv hq;omega⟩
   |some ad=>
    obtain⟨v',w',hr,h2,h3,_,h5⟩:=run_append_own_at (P:=P) w base t ty e i z i.size i.bytes ht hi hz rfl rfl hzs hsz v n xs hown ad 0 c [] (by simp) (by simp) (by simp) (by unfold maxLen;omega) (by simpa using hbytes) hbase;exact⟨v',w',[],hr,by simpa using h2,h3,h5,by simp,by intro q j sv hq;omega⟩
 . let news:List Value:=(List.range (k*i.size)).map fun t=>(w.cell? ⟨b,off+t,none⟩).getD undef
   have hsplit: ∀t,t<k*i.size->t/i.size<k/\t%i.size<i.size/\t/i.size*i.size+t%i.size=t:=fun t ht=>
    ⟨by rw [K9 hsz];exact ht,Ki _ hsz,by rw [Km];exact Q5 t i.size⟩
   have hget: ∀t u,news[t]?=some u->t<k*i.size/\w.cell? ⟨b,off+t,none⟩=some u:=by
    intro t u h;have hlt:=(Jb.1 h).1;simp only [news,Qj,Zd]at hlt;obtain⟨q1,q2,q3⟩:=hsplit t hlt;obtain⟨x,hx,_⟩:=hc _ _ q1 q2;rw [q3]at hx;simp only [news,J5,Q9,hlt,if_true,K4,J3]at h;rw [hx]at h;simp at h;subst h;exact⟨hlt,hx⟩
   obtain⟨v',w',hr,h2,h3,_,h5⟩:=run_append_own_at (P:=P) w base t ty e i z i.size i.bytes ht hi hz rfl rfl hzs hsz v n xs hown ⟨b,off,none⟩ k c news (by simp [news]) (fun j u hu=>by rw [dU];exact(hget j u hu).2) (fun u hu=>by
    obtain⟨t,ht⟩:=List.getElem?_of_mem hu;obtain⟨hlt,hx⟩:=hget t u ht;obtain⟨q1,q2,q3⟩:=hsplit t hlt;obtain⟨x,hx2,hr⟩:=hc _ _ q1 q2;rw [q3,hx]at hx2;simp at hx2;subst hx2;have ho:=hone _ q1;simp only [mF,J2,beq_iff_eq,Js]at ho;have hl:t%i.size<(g (t/i.size)).length:=by rw [ho.1];exact q2
    exact gk (hr _ (J4 hl)) (ho.2 _ (Ku hl))) (by unfold maxLen;omega) hbytes hbase
   refine⟨v',w',news,hr,h2,h3,h5,by simp [news],fun q j sv hq hs=> ?_⟩;have ho:=hone _ hq;simp only [mF,J2,beq_iff_eq]at ho;have hj:j<i.size:=by rw [<-ho.1];exact(Jb.1 hs).1
   obtain⟨x,hx,hr⟩:=hc q j hq hj;have hin:q*i.size+j<k*i.size:=by
    have:(q+1)*i.size<=k*i.size:=Jl _ hq;rw [Ji]at this;omega
   have:news.getD (q*i.size+j) undef=x:=by
    simp only [news,J0,J5,Q9,hin,if_true,K4,K5,hx]
   rw [this];exact hr sv hs
theorem aT {o:Oper} {c:Call} {b:Builtin} (ho:o.op= .call c) (hc:c.callee= .builtin b):(execOp a.eval o).run P w=(builtin b c.argTypes o.type (c.args.map fun| .const _=>true|_=>false) (c.args.map a.eval)).run P w:=by
 unfold execOp;simp only [ho,resolve,hc,Sem.run_bind,Sem.run_pure,Result.andThen_ok,invoke];rfl
theorem rG {base:Nat} {e:TypeId} {size n:Nat} {v:Value} {xs:List Value} (h:w.ownsRow base e size v n xs):
 (v= .slice none 0 0/\n=0)\/ ∃g cap cur,v= .slice (some ⟨g,0,none⟩) n cap/\base<=g/\n<=cap/\cap<=maxLen/\w.heap[g]?=some (.cells cur e (0,0))/\cur.size=cap*size/\ ∀k,k<n*size->cur.getD k undef=xs.getD k undef:=by
 rcases h.2 with h0|⟨g,cap,cur,hv,hb,hh,hn,hc,hs,ht⟩
 . exact .inl h0
 . refine .inr ⟨g,cap,cur,hv,hb,hn,hc,hh,hs,fun k hk=> ?_⟩;rw [<-ht];simp [J0,Q6,hk,Jf]
def T9 (P:Program) (E:Env) (ro:RO) (own:Own) (w:World) (ats:Array TypeId) (ty e:TypeId) (es bytes:Nat) (vy:Value) (k:Nat) (g:Nat->List SV):Prop:=
 ∀(v:Value) (n:Nat) (xs:List Value),w.ownsRow E.B e es v n xs->n+k<=140737488355328->(n+k)*bytes<=140737488355328->
  ∃v' w' news,(Builtin.append_ ats ty #[v,vy]).run P w= .ok v' w'/\w'.ownsRow E.B e es v' (n+k) (xs++news)/\w.grownBy w' v.ownBlock/\(v'.ownBlock=v.ownBlock\/v'.ownBlock=some w.heap.size)/\
   news.length=k*es/\ ∀q j sv,q<k->(g q)[j]?=some sv->Rel ro own sv (news.getD (q*es+j) undef)
theorem Bf (h:bA E ro own s w a) {o:Oper} {c:Call} {nid d:Nat} {e:TypeId} {es bytes:Nat} {x:SV} {vx vy:Value} {k:Nat} {g:Nat->List SV} (ho:o.op= .call c) (hc:c.callee= .builtin .append) (hargs:c.args.map a.eval= #[vx,vy])
 (hx:Rel ro own x vx) (hd:o.dst=some d) (hdN:d<E.N) (hc2:0<es) (hsrc:T9 P E ro own w c.argTypes o.type e es bytes vy k g) {ws} (hk:(tG nid d e es bytes x k g).ok s ws):fW E P o s w a ws:=by
 unfold tG at hk;split at hk
 ·
  obtain⟨⟨hb1,hb2⟩,hk⟩:=hk;obtain⟨hf,hk⟩:=kC hk;have hws:ws=lO nid true (some e) es [.a k es g]++[(.tm d, .v (.sl nid 0 0 k))]:=hk.symm;subst hws;have hvx:=gh hx;have hown:w.ownsRow E.B e es vx 0 []:=⟨by simp, .inl ⟨hvx,rfl⟩⟩;obtain⟨v',w',news,hrun,h2,h3,h4,h5,h6⟩:=hsrc vx 0 [] hown (by omega) (by simpa using hb2);have hvo:vx.ownBlock=none:=by rw [hvx];rfl
  rw [Jg,Jj]at h2;rw [hvo]at h3 h4;have hwr:lO nid true (some e) es [.a k es g]=[(.mt nid, .m (some ⟨0,false,true,some e,1,es,[]⟩)),(.sg nid 0, .s (.a k es g))]:=rfl;have cont: ∀own':Own,own.le own'-> ∀t sv,flat [.a k es g] t=some sv->Rel ro own' sv (news.getD t undef):=by
   intro own' hle t sv ht;have hlt:t<k*es:=by have:=cK ht;simpa [aa,ar.size]using this
   rw [cy hlt]at ht;have hq:t/es<k:=by rw [K9 hc2];exact hlt
   have:=h6 _ _ sv hq ht;rw [show t/es*es+t%es=t from by rw [Km];exact Q5 t es]at this;exact this.own hle
  intro Q;unfold Oper.wp;rw [aT ho hc,hargs];simp only [builtin,Sem.run_bind,hrun,Result.andThen_ok,Sem.run_pure];show dL E _ w' (a.put o.dst v')
  rw [hd,aM,hwr,kA];rcases rG h2 with⟨hv',hn⟩|⟨gb,cap,cur,hv',g1,g2,g3,g4,g5,g6⟩
  . obtain⟨own',hle,e1,e2,e3,hs⟩:=h.grow (w':=w') (ob:=none) h3 (id:=nid) (n:=k) (es:=es) (cap:=0) (f:=g) (e:=e) 0 1 rfl (by simp) (fun v _=>h.fr nid hf v) (fun _=>0) (fun _=>es) (fun v x q hx=>by rw [h.fr nid hf v]at hx;cases hx) rfl rfl (sh:=[]) (blk:=none) (fun _=>hn) (by simp);exact⟨ro,own',hs.put hdN (by rw [hv'];exact .Es _ _ _ _ _ e1 hn rfl)⟩
  . have hgb:gb=w.heap.size:=by
     rcases h4 with h4|h4<;>rw [hv']at h4<;>simp [Value.ownBlock]at h4
     exact h4
    obtain⟨own',hle,e1,e2,e3,hs⟩:=h.grow (w':=w') (ob:=none) h3 (id:=nid) (n:=k) (es:=es) (cap:=cap) (f:=g) (e:=e) 0 1 rfl (by simp) (fun v _=>h.fr nid hf v) (fun _=>0) (fun _=>es) (fun v x q hx=>by rw [h.fr nid hf v]at hx;cases hx) rfl rfl (sh:=[]) (blk:=some gb) (by simp) (fun b hb=>by
     simp at hb;subst hb;refine⟨g1, .inr hgb,g2,g3,cur,g4,g5,fun own' hle t sv ht=> ?_⟩;have hlt:t<k*es:=by have:=cK ht;simpa [aa,ar.size]using this
     rw [g6 t hlt];exact cont own' hle t sv ht)
    refine⟨ro,own',hs.put hdN ?_⟩;have:=Rel.sl (ro:=ro) own' nid 0 0 k gb e1 (by rw [e2];omega);rw [e2,Yy,Xf]at this;rw [hv'];exact this
 ·
  rename_i id aD off len;obtain⟨m,hm,hk⟩:=fG hk;have he:=h.gK id m hm;split at hk
  case isFalse=>exact hk.elim
  rename_i hcm;obtain⟨hrow,hver,hmes,hz0,happ⟩:=hcm;obtain⟨y2,hy2,hk⟩:=lf hk;split at hk
  case h_2=>exact hk.elim
  rename_i n es' f;split at hk
  case isFalse=>exact hk.elim
  rename_i hes;have hes:=hes.symm;subst hes;obtain⟨⟨hoff,hlen,hb1,hb2⟩,hk⟩:=hk;subst hoff;subst hlen;subst hver;have hws:=hk.symm
  change ws=_ at hws
  subst hws;obtain⟨n0,f0,hseg0,hn0⟩:=he.row hrow;have hns:m.ns=1:=by
   have:=St.aU s id m.ns;rw [hseg0]at this;simpa using this.symm
  have hseg:s.az id m.ns=[.a len es f]:=by
   rw [hns];simp [St.az,Q7,hy2]
  have hst0:own.st id 0=0:=by rw [he.st 0 (by omega)];rfl
  have hes0:own.es id 0=es:=by rw [he.es 0 (.a len es f) (by rw [hseg];rfl)];rfl
  have key: ∃xs:List Value,w.ownsRow E.B e es vx len xs/\(∀t sv,flat [.a len es f] t=some sv->Rel ro own sv (xs.getD t undef))/\(∀b,vx.ownBlock=some b->own.env id m.aD=some (some b)):=by
   rcases fH hx with⟨b,hb,hcap,hv⟩|⟨hb,hl,_,hv⟩
   . obtain⟨cs,e',lo,hi',hh,r1,r2,r3,r4,r5,r6⟩:=(he.live b hb hz0).body;obtain⟨rfl,rfl,rfl,q4⟩:=r2 e happ;rw [hseg]at r3 r4;simp only [aa,ar.size,Jv]at r3;have hcs:=r6 hrow;rw [hes0]at hcs;rw [hes0,Yy,Xf]at hv;have hcl:len<=own.cap id m.aD:=by
      rw [hseg0]at hseg;simp at hseg;rw [<-hseg.1];exact hn0 b hb
     refine⟨cs.toList.take (len*es),⟨by simp;omega, .inr ⟨b,_,cs,hv,(he.live b hb hz0).low,hh,hcl,q4,hcs,rfl⟩⟩,fun t sv ht=> ?_,fun b' hb'=> ?_⟩
     . have hlt:t<len*es:=by have:=cK ht;simpa [aa,ar.size]using this
       have:=r4 t sv ht;simpa [J0,Q6,hlt,Jf]using this
     . rw [hv]at hb';simp [Value.ownBlock]at hb';subst hb';exact hb
   . refine⟨[],⟨by simp [hl], .inl ⟨hv,hl⟩⟩,fun t sv ht=> ?_,fun b' hb'=> ?_⟩
     . have:=cK ht;simp [aa,ar.size,hl]at this
     . rw [hv]at hb';simp [Value.ownBlock]at hb'
  obtain⟨xs,hown,hxs,hvb⟩:=key;obtain⟨v',w',news,hrun,h2,h3,h4,h5,h6⟩:=hsrc vx len xs hown hb1 hb2;have cont: ∀own':Own,own.le own'-> ∀t sv,flat [.a (len+k) es fun j=>af (decide (j<len)) (f j) (g (j-len))] t=some sv->Rel ro own' sv ((xs++news).getD t undef):=by
   intro own' hle t sv ht;have hlt:t<(len+k)*es:=by have:=cK ht;simpa [aa,ar.size]using this
   rw [cy hlt]at ht;obtain⟨x1,y1,hx1,hy1,rfl⟩:=m8 ht;have hdm:t/es*es+t%es=t:=by rw [Km];exact Q5 t es
   have hmod:t%es<es:=Ki _ hc2;have hxl:xs.length=len*es:=hown.1
   by_cases hq:t/es<len
   . have htl:t<len*es:=by rwa [<-Nat.div_lt_iff_lt_mul hc2]
     refine jv (fun _=> ?_) (fun hf=>by simp [hq]at hf);rw [J0,Ka (by omega),<-List.getD_eq_getElem?_getD];exact(hxs t x1 (by rw [cy htl];exact hx1)).own hle
   . have htl:len*es<=t:=by
      have:=Jl es (Nat.le_of_not_lt hq);omega
     refine jv (fun hf=>by simp [hq]at hf) (fun _=> ?_);rw [J0,Jy (by omega),<-List.getD_eq_getElem?_getD,hxl];have hqk:t/es-len<k:=by
      have:t/es<len+k:=by rw [K9 hc2];exact hlt
      omega
     have:=h6 _ _ y1 hqk hy1;have e1:(t/es-len)*es+t%es=t-len*es:=by
      have h8:len*es<=t/es*es:=Jl _ (Nat.le_of_not_lt hq);rw [Nat.sub_mul];generalize t/es*es=A at*;omega
     rw [e1]at this;exact this.own hle
  intro Q;unfold Oper.wp;rw [aT ho hc,hargs];simp only [builtin,Sem.run_bind,hrun,Result.andThen_ok,Sem.run_pure];show dL E _ w' (a.put o.dst v')
  rw [hd];have hmm:({m with aD:=m.aD+1}:lZ)=⟨m.aD+1,false,true,some e,m.ns,es,m.sh⟩:=by
   cases m;simp only at*;subst_vars;rfl
  rw [hmm];show dL E ((s.apply [(.mt id, .m (some ⟨m.aD+1,false,true,some e,m.ns,es,m.sh⟩)),(.sg id 0, .s (.a (len+k) es fun j=>af (decide (j<len)) (f j) (g (j-len))))]).put (.tm d) (.v (.sl id (m.aD+1) 0 (len+k)))) w' (a.put (some d) v')
  have hst: ∀ver' x q,own.env id ver'=some x->own.st id q=own.st id q/\own.es id q=own.es id q:=fun _ _ _ _=>⟨rfl,rfl⟩
  rcases rG h2 with⟨hv',hn⟩|⟨gb,cap,cur,hv',g1,g2,g3,g4,g5,g6⟩
  . obtain⟨own',hle,e1,e2,e3,hs⟩:=h.grow (w':=w') (ob:=vx.ownBlock) h3 (id:=id) (n:=len+k) (es:=es) (cap:=0) (f:=fun j=>af (decide (j<len)) (f j) (g (j-len))) (e:=e) (m.aD+1) m.ns hns (fun b hb=>⟨m,hm,hz0,hvb b hb⟩) (fun v hv=>h.mY id m hm v (by omega)) (own.st id) (own.es id) hst hst0 hes0 (sh:=m.sh) (blk:=none) (fun _=>hn) (by simp);exact⟨ro,own',hs.put hdN (by rw [hv'];exact .Es _ _ _ _ _ e1 hn rfl)⟩
  . obtain⟨own',hle,e1,e2,e3,hs⟩:=h.grow (w':=w') (ob:=vx.ownBlock) h3 (id:=id) (n:=len+k) (es:=es) (cap:=cap) (f:=fun j=>af (decide (j<len)) (f j) (g (j-len))) (e:=e) (m.aD+1) m.ns hns (fun b hb=>⟨m,hm,hz0,hvb b hb⟩) (fun v hv=>h.mY id m hm v (by omega)) (own.st id) (own.es id) hst hst0 hes0 (sh:=m.sh) (blk:=some gb) (by simp) (fun b hb=>by
     simp at hb;subst hb;refine⟨g1,?_,g2,g3,cur,g4,g5,fun own' hle t sv ht=> ?_⟩
     . rcases h4 with h4|h4
       . left;rw [<-h4,hv'];rfl
       . right;rw [hv']at h4;simpa [Value.ownBlock]using h4
     . have hlt:t<(len+k)*es:=by have:=cK ht;simpa [aa,ar.size]using this
       rw [g6 t hlt];exact cont own' hle t sv ht)
    refine⟨ro,own',hs.put hdN ?_⟩;have:=Rel.sl (ro:=ro) own' id (m.aD+1) 0 (len+k) gb e1 (by rw [e2];omega);rw [e2,Yy,Xf]at this;rw [hv'];exact this
 . exact hk.elim
theorem zT (h:bA E ro own s w a) {o:Oper} {c:Call} {nid:Nat} {T:TypeId} {x y:SV} {vx vy:Value} (ho:o.op= .call c) (hc:c.callee= .builtin .append) (hT:c.argTypes= #[T,T]) (hargs:c.args.map a.eval= #[vx,vy])
 (hx:Rel ro own x vx) (hy:Rel ro own y vy) {ws} (hk:(kY P E.N nid o.dst T x y).ok s ws):fW E P o s w a ws:=by
 unfold kY at hk;split at hk
 case h_2=>exact hk.elim
 rename_i e hu;split at hk
 case h_2=>exact hk.elim
 rename_i z i d hz hi hd;split at hk
 case isFalse=>exact hk.elim
 rename_i hc0;obtain⟨hc1,hc2,hdN⟩:=hc0;obtain⟨k,g,hk2,hsrc⟩:=pJ h hy hk;clear hk;obtain⟨hone,hk⟩:=hk2;obtain⟨zv,z1,z2,z3⟩:=gl (ro:=ro) (own:=own) hz;have hzi:i.zero=some zv:=by
  have:=z1 w;simp only [zeroValue,Sem.run_bind,qF hi,Result.andThen_ok]at this;cases hq:i.zero with
  |none=>rw [hq]at this;simp at this
  |some q=>rw [hq]at this;simp at this;rw [this]
 have hzs:zv.cells.size=i.size:=by rw [z2,hc1]
 refine Bf h ho hc hargs hx hd hdN hc2 (fun v n xs hown h1 h2=> ?_) hk;rw [hT];exact x9 (ro:=ro) (own:=own) E.B T o.type e i zv hu hi hzi hzs hc2 v n xs hown hsrc hone h1 h2 h.base
theorem Ak {x:Option Value} (h:tz x=true):x=some (.int .u8 0):=by
 unfold tz at h;split at h
 . rfl
 . cases h
theorem Lg (l:List UInt8):Lib.strCells ⟨l.toArray⟩=l.map fun b=>Value.int .u8 b.toNat:=by simp [Lib.strCells]
theorem UA {l:List UInt8} {q j:Nat} {sv:SV} (hq:q<l.length) (h:(nQ l q)[j]?=some sv):Rel ro own sv ((l.map fun b=>Value.int .u8 b.toNat).getD (q*1+j) undef):=by
 cases j with
 |zero=>
  simp [nQ,J0,hq]at h;subst h;simp [J0,hq];exact .int _ _ _
 |succ j=>simp [nQ]at h
theorem DP (h:bA E ro own s w a) {o:Oper} {c:Call} {nid:Nat} {T U:TypeId} {x y:SV} {vx vy:Value} (ho:o.op= .call c) (hc:c.callee= .builtin .append) (hT:c.argTypes= #[T,U]) (hargs:c.args.map a.eval= #[vx,vy])
 (hx:Rel ro own x vx) (hy:Rel ro own y vy) {ws} (hk:(vV P E.N nid o.dst T U x y).ok s ws):fW E P o s w a ws:=by
 unfold vV at hk;split at hk
 case h_2=>exact hk.elim
 rename_i e l hu hU;split at hk
 case h_2=>exact hk.elim
 rename_i i d hi hd;split at hk
 case isFalse=>exact hk.elim
 rename_i hc0;obtain⟨hz,h1,h2,hdN⟩:=hc0;have hz:=Ak hz;refine Bf h ho hc hargs hx hd hdN (by omega) (fun v n xs hown q1 q2=> ?_) hk;rw [hT,dR hy];have hs:(⟨l.toArray⟩:ByteArray).size=l.length:=by simp [ByteArray.size]
 obtain⟨v',w',r1,r2,r3,r4⟩:=Lib.run_append_own_string (P:=P) w E.B T U o.type e i hu hU hi hz h1 h2 v n xs hown ⟨l.toArray⟩ (by rw [hs];unfold maxLen;omega) (by rw [hs];omega) h.base;rw [hs,Lg]at r2;refine⟨v',w',_,r1,r2,r3,?_,by simp,fun q j sv hq hj=>UA hq hj⟩;rcases hown.2 with⟨rfl,rfl⟩|⟨gb,cap,cur,rfl,hbg,hg,hnc,hcm,hcs,htake⟩
 . by_cases hm:l.length=0
   . left;rw [r4.2 ⟨rfl,by rw [hs];exact hm⟩]
   . have hr:=run_append_nil_string (P:=P) w T U o.type e i (.int .u8 0) hu hU hi hz ⟨l.toArray⟩ (by rw [hs];omega) (by rw [hs];omega) (by rw [hs,h2];omega);rw [r1]at hr;simp only [Result.ok.injEq]at hr;right;rw [hr.1];rfl
 . by_cases hroom:n+l.length<=cap
   . have hcs':cur.size=cap:=by simpa using hcs
     have hr:=Lib.run_append_room_string (P:=P) w T U o.type e i hu hU hi h1 gb n cap cur hg ⟨l.toArray⟩ (by rw [hs];exact hroom) (by rw [hs];omega);rw [r1]at hr;simp only [Result.ok.injEq]at hr;left;rw [hr.1];rfl
   . have hxl:xs.length=n:=by simpa using hown.1
     have holds: ∀j u,xs[j]?=some u->w.cell? ((⟨gb,0,none⟩:Addr).add j)=some u:=hown.cells (g:=gb) rfl;have hr:=Lib.run_append_grow_string (P:=P) w T U o.type e i (.int .u8 0) hu hU hi hz ⟨gb,0,none⟩ n cap xs (by rw [h1];simpa using hxl) holds ⟨l.toArray⟩ (by rw [hs];omega) (by rw [hs];omega) (by rw [hs,h2];exact growslice_fits (by omega) (by omega));rw [r1]at hr;simp only [Result.ok.injEq]at hr;right;rw [hr.1];rfl
end
end Go.Sx
namespace Go.Sx
open Go Go.RowKit
variable [bW]
section
variable {E : Env} {P : Program} {ro : RO} {own : Own} {s : St} {w : World} {a : Act}
theorem CM {g:Nat} {cur cs:Array Value} {t:TypeId} {lo hi:Nat} (hg:w.heap[g]?=some (.cells cur t (lo,hi))):w.setRow g cs=gO w g cs t lo hi:=by
 obtain⟨hlt,hv⟩:=K3.1 hg;unfold World.setRow gO
 congr 1
 apply Xz;intro i;rw [Zc,Yd]
 by_cases e:g=i
 . subst e;rw [if_pos rfl,if_pos rfl,hg,if_pos hlt];rfl
 . rw [if_neg e,if_neg e]
theorem Cw (dT sT ty elem:TypeId) (g o dLen dCap k:Nat) (src:Value) (cur:Array Value) (t:TypeId) (cs:List Value)
 (hu:P.underlying dT=some (.slice elem)) {i:TypeInfo} (hq:P.info? elem=some i) (hi:i.size=1)
 (hg:w.heap[g]?=some (.cells cur t (0,0))) (hlen:(Builtin.lenOf src).run P w= .ok k w) (hn:cs.length=Nat.min k dLen)
 (hfc:(Builtin.firstCells 1 (Nat.min k dLen) src).run P w= .ok cs.toArray w) (hfit:o+cs.length<=cur.size) (h1: ∀v∈cs,v.oneCell'=true):
 (Builtin.copy_ #[dT,sT] ty #[.slice (some ⟨g,o,none⟩) dLen dCap,src]).run P w=
  .ok (goInt cs.length) (w.setRow g (cur.toList.take o++cs++cur.toList.drop (o+cs.length)).toArray):=by
 have hst:=run_storeCells_at P g o t cs 0 cur w hg (by simpa using hfit) h1;simp [Builtin.copy_,run_underlying hu,sizeOf,typeInfo,hq,hi,hlen,hn▸hfc,<-hn,hst]
theorem OO (n:Nat):goInt n= .int .i64 n:=rfl
theorem yv (h:bA E ro own s w a) {o:Oper} {c:Call} {T U e:TypeId} {i:TypeInfo} {x:SV} {vx vy:Value} {k:Nat} {g:Nat->List SV} (ho:o.op= .call c) (hc:c.callee= .builtin .copy) (hT:c.argTypes= #[T,U]) (hargs:c.args.map a.eval= #[vx,vy])
 (hu:P.underlying T=some (.slice e)) (hi:P.info? e=some i) (hs1:i.size=1) (hx:Rel ro own x vx) (hlen:(Builtin.lenOf vy).run P w= .ok k w)
 (hsrc: ∀n,n<=k-> ∃cs:List Value,cs.length=n/\(Builtin.firstCells 1 n vy).run P w= .ok cs.toArray w/\(∀v∈cs,v.oneCell'=true)/\ ∀j sv,j<n->g j=[sv]->Rel ro own sv (cs.getD j undef))
 (hone: ∀j,j<k-> ∃sv,g j=[sv]) {ws} (hk:(uz E.N o.dst x k g).ok s ws):fW E P o s w a ws:=by
 unfold uz at hk;split at hk
 case h_2=>exact hk.elim
 rename_i id aD off len;obtain⟨m,hm,hk⟩:=fG hk;have he:=h.gK id m hm;split at hk
 case isFalse=>exact hk.elim
 rename_i hcm;obtain⟨hrow,hver,hmes,hz0,happ⟩:=hcm;obtain⟨y2,hy2,hk⟩:=lf hk;split at hk
 case h_2=>exact hk.elim
 rename_i n es f;split at hk
 case h_2=>exact hk.elim
 rename_i d hd;split at hk
 case isFalse=>exact hk.elim
 rename_i hes;obtain⟨hes,hdN⟩:=hes;subst hes;obtain⟨⟨hfit,hpos⟩,hk⟩:=hk;have hws:=hk.symm
 change ws=_ at hws
 subst hws;subst hver;obtain⟨n0,f0,hseg0,hn0⟩:=he.row hrow;have hns:m.ns=1:=by
  have:=St.aU s id m.ns;rw [hseg0]at this;simpa using this.symm
 have hseg:s.az id m.ns=[.a n 1 f]:=by
  rw [hns];simp [St.az,Q7,hy2]
 have hes0:own.es id 0=1:=by rw [he.es 0 (.a n 1 f) (by rw [hseg];rfl)];rfl
 rcases fH hx with⟨b,hb,hcap,hv⟩|⟨hb,hl,_,hv⟩
 case inr=>omega
 obtain⟨cs,e',lo,hi',hh,r1,r2,r3,r4,r5,r6⟩:=(he.live b hb hz0).body;obtain⟨e2,hap⟩:=Qi.1 happ;obtain⟨rfl,rfl,rfl,q4⟩:=r2 e2 hap;rw [hseg]at r3 r4;simp only [aa,ar.size,Jv,Nat.mul_one]at r3;rw [hes0,Nat.mul_one]at hv;obtain⟨news,n1,n2,n3,n4⟩:=hsrc (Nat.min k len) (Nat.min_le_left _ _);have hmin:Nat.min k len<=len:=Nat.min_le_right _ _;have hmk:Nat.min k len<=k:=Nat.min_le_left _ _;have hrun:=Cw (P:=P) (w:=w) T U o.type e b off len (own.cap id m.aD-off) k vy cs e' news hu hi hs1 hh hlen n1 n2 (by rw [n1];omega) n3
 rw [n1]at hrun;intro Q;unfold Oper.wp;rw [aT ho hc,hT,hargs,hv];simp only [builtin,Sem.run_bind,hrun,Result.andThen_ok,Sem.run_pure];show dL E _ _ (a.put o.dst _)
 rw [hd,CM hh];have hnat:(min k len:Nat)=Nat.min k len:=rfl
 let cs':Array Value:=(cs.toList.take off++news++cs.toList.drop (off+Nat.min k len)).toArray
 have hsz:cs'.size=cs.size:=by
  simp only [cs',Ko,Y0,Kj,Xd,Array.length_toList,n1];omega
 let s1:St:=s.put (.sg id 0) (.s (.a n 1 fun j=>af (decide (off<=j/\j<off+min k len)) (g (j-off)) (f j)))
 have hs1':s1.az id m.ns=[.a n 1 fun j=>af (decide (off<=j/\j<off+min k len)) (g (j-off)) (f j)]:=by
  rw [hns];simp [St.az,Q7,St.uC,s1,St.put]
 have ht:bA E ro own s1 (gO w b cs' e' 0 0) a:=by
  refine h.U3 hm hz0 hb hh hsz (fun l hl=> ?_) ?_ fun t sv hsv=> ?_
  . exact St.bh _ _ (hl 0)
  . rw [hs1',hseg];rfl
  . rw [hs1']at hsv;have hlt:t<n*1:=by have:=cK hsv;simpa [aa,ar.size]using this
    rw [cy hlt]at hsv;simp only [Nat.div_one,Nat.mod_one]at hsv;obtain⟨x1,y1,hx1,hy1,rfl⟩:=m8 hsv;have hold:flat [.a n 1 f] t=some y1:=by rw [cy hlt];simp only [Nat.div_one,Nat.mod_one];exact hy1
    have hcs': ∀t,cs'.getD t undef=if t<off then cs.getD t undef else if t<off+Nat.min k len then news.getD (t-off) undef else cs.getD t undef:=fun t=>by
     simp only [cs',Jf,List.getElem?_toArray,J0]
     by_cases h1:t<off
     . rw [if_pos h1,Jq,Ka (by simp;omega),Q6,if_pos h1,Xp]
     . rw [if_neg h1]
       by_cases h2:t<off+Nat.min k len
       . rw [if_pos h2,Jq,Jy (by simp;omega),Ka (by simp;omega)]
         congr 2;simp;omega
       . rw [if_neg h2,Jy (by simp;omega),Qg,Xp]
         congr 2;simp;omega
    rw [hcs']
    by_cases hq:off<=t/\t<off+min k len
    . refine jv (fun _=> ?_) (fun hf=>by simp [hq]at hf);rw [if_neg (by omega),if_pos (by omega)];obtain⟨sv0,hsv0⟩:=hone (t-off) (by omega);rw [hsv0]at hx1;simp at hx1;subst hx1;exact n4 (t-off) sv0 (by omega) hsv0
    . refine jv (fun hf=>by simp [hq]at hf) (fun _=> ?_);have:=r4 t y1 hold
      by_cases h1:t<off
      . rw [if_pos h1];exact this
      . rw [if_neg h1,if_neg (by omega)];exact this
 refine⟨ro,own,?_⟩;show bA E ro own (s1.put (.tm d) (.v (.int .i64 ((min k len:Nat):Int)))) _ _
 refine ht.put hdN ?_;rw [OO];exact .int _ _ _
theorem Pt (h:bA E ro own s w a) {o:Oper} {c:Call} {T U:TypeId} {x y:SV} {vx vy:Value} (ho:o.op= .call c) (hc:c.callee= .builtin .copy) (hT:c.argTypes= #[T,U]) (hargs:c.args.map a.eval= #[vx,vy])
 (hx:Rel ro own x vx) (hy:Rel ro own y vy) {ws} (hk:(G7 P E.N o.dst T x y).ok s ws):fW E P o s w a ws:=by
 unfold G7 at hk;split at hk
 case h_2=>exact hk.elim
 rename_i e hu;split at hk
 case h_2=>exact hk.elim
 rename_i i hi;split at hk
 case isFalse=>exact hk.elim
 rename_i hs1;split at hk
 . rename_i l;have hv:=dR hy;refine yv h ho hc hT hargs hu hi hs1 hx (k:=l.length) (g:=nQ l) (by rw [hv];simp [Builtin.lenOf,ByteArray.size,Sem.run_pure]) (fun n hn=> ?_) (fun j _=>⟨_,rfl⟩) hk;refine⟨(l.take n).map fun b=>Value.int .u8 b.toNat,by simp;omega,?_,fun v hv=> ?_,fun j sv hj hg=> ?_⟩
   . rw [hv];simp [Builtin.firstCells,Sem.run_pure]
   . simp only [Kh]at hv;obtain⟨b,_,rfl⟩:=hv;rfl
   . simp only [nQ,Qw,and_true]at hg;subst hg;simp [J0,Q6,hj,show j<l.length by omega];exact .int _ _ _
 . obtain⟨k,g,hk2,hsrc⟩:=pJ h hy hk;obtain⟨hone,hk⟩:=hk2;have one: ∀j,j<k-> ∃sv,g j=[sv]/\ib sv=true:=fun j hj=>by
    have ho:=hone j hj;simp only [mF,J2,beq_iff_eq,Js]at ho
    match hl:g j,ho with
    |[sv],ho=>exact⟨sv,rfl,ho.2 sv (by simp)⟩
   refine yv h ho hc hT hargs hu hi hs1 hx (k:=k) (g:=g) ?_ (fun n hn=> ?_) (fun j hj=>let⟨sv,h1,_⟩:=one j hj;⟨sv,h1⟩) hk
   . rcases hsrc with⟨rfl,A,c',rfl⟩|⟨b,off,c',rfl,_⟩<;>simp [Builtin.lenOf,Sem.run_pure]
   . rcases hsrc with⟨rfl,A,c',rfl⟩|⟨b,off,c',rfl,hcell⟩
     . have:n=0:=by omega
       subst this;refine⟨[],rfl,?_,by simp,fun j sv hj=>by omega⟩;cases A with
       |none=>simp [Builtin.firstCells,Sem.run_pure]
       |some A=>
        have:=run_loadCells_list (P:=P) w A [] (by simp);simpa [Builtin.firstCells]using this
     . have hc': ∀j,j<k-> ∃u,w.cell? ⟨b,off+j,none⟩=some u/\ ∀sv,g j=[sv]->Rel ro own sv u:=fun j hj=>by
        obtain⟨u,h1,h2⟩:=hcell j 0 hj (by omega);exact⟨u,by simpa using h1,fun sv hg=>h2 sv (by rw [hg];rfl)⟩
       let cs:List Value:=(List.range n).map fun j=>(w.cell? ⟨b,off+j,none⟩).getD undef
       have hat: ∀j u,cs[j]?=some u->j<n/\w.cell? ⟨b,off+j,none⟩=some u:=fun j u hj=>by
        have hlt:=(Jb.1 hj).1;simp only [cs,Qj,Zd]at hlt;obtain⟨u',h1,_⟩:=hc' j (by omega);simp only [cs,J5,Q9,hlt,if_true,K4,J3]at hj;rw [h1]at hj;simp at hj;subst hj;exact⟨hlt,h1⟩
       refine⟨cs,by simp [cs],?_,fun v hv=> ?_,fun j sv hj hg=> ?_⟩
       . have:=run_loadCells_list (P:=P) w ⟨b,off,none⟩ cs (fun j v hj=>by rw [dU];exact(hat j v hj).2);have hl:cs.length=n:=by simp [cs]
         rw [hl]at this;simpa [Builtin.firstCells]using this
       . obtain⟨j,hj⟩:=List.getElem?_of_mem hv;obtain⟨h1,h2⟩:=hat j v hj;obtain⟨sv,h3,h4⟩:=one j (by omega);obtain⟨u,h5,h6⟩:=hc' j (by omega);rw [h2]at h5;simp at h5;subst h5;exact gk (h6 sv h3) h4
       . obtain⟨u,h5,h6⟩:=hc' j (by omega);have:cs.getD j undef=u:=by simp [cs,J0,hj,h5]
         rw [this];exact h6 sv hg
end
end Go.Sx
