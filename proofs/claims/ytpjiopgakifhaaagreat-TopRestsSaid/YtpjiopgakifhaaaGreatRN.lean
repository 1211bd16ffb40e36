import Derived.Test.YtpjiopgakifhaaaGreatRA
import Derived.Test.YtpjiopgakifhaaaGreatRM
import Derived.Test.YtpjiopgakifhaaaGreatRJ
set_option linter.unusedSectionVars false
set_option linter.unusedSimpArgs false
set_option linter.unusedVariables false
set_option maxRecDepth 100000
namespace Go.Proofs.Big
open Go Go.Sx Go.Proofs Tryz
variable [bW]
attribute [local irreducible] lm nv tl dg dz
theorem O4(l:Ω):rr l=l:=by unfold rr;exact Te
theorem sf_eq{b:Ω}(h:0<b.length)(c:b.length<=10000000):sf b=rX b:=by
 unfold sf rX;rw[aO (by omega) (by omega),show((b.length:Int)-1).toNat=b.length-1 by omega]
theorem ZU{a b:Ω}(c:Div a b){n G:Int}{l r:Ω}(z:inv1 a b n l r)(X:0<=n)(R:ak a b n G)(es:yX b=dg (b.length+1) (v0 b)):
 (kh a b n (G) 0 0 0 (ah i32 (a.length+1) λj=>[SV.int .u32 (l.getD j 0)])/\∀i,i<a.length+1->l.getD i 0=(ah i32 (a.length
  +1) λj=>[SV.int .u32 (l.getD j 0)]).getD i 0)/\∀(d o q:Int)(m:Ω),kh a b n (G) d o q m->(d< ↑b.length
  ->(0<=d/\d< ↑b.length)/\d.toNat<b.length+1/\(0<=W (d+n)/\W (d+n)<((a.length+1:Nat):Int))/\W (d+n)< ↑a.length+1/\(0<=W (d
  +n)/\W (d+n)<((a.length+1:Nat):Int))/\W (d+n)< ↑a.length+1/\kh a b n (G) (W (d+1)) (U (U (G*U ((yX b).getD d.toNat 0))+o)/4294967296)
  (U (U (U (m.getD (W (d+n)).toNat 0)-U (V (U (U (G*U ((yX b).getD d.toNat 0))+o))))-q)/9223372036854775808) (ah i32 (a.length+
  1) λk=>af (decide (k=(W (d+n)).toNat)) [SV.int .u32 (V (U (U (U (m.getD (W (d+n)).toNat 0)-U (V (U (U (G*U ((yX b).getD
  d.toNat 0))+o))))-q)))] [SV.int .u32 (m.getD k 0)])/\max (↑b.length-W (d+1)) 0< ↑b.length-d/\∀i,i<a.length
  +1->(if i=(W (d+n)).toNat then V (U (U (U (m.getD (W (d+n)).toNat 0)-U (V (U (U (G*U ((yX b).getD d.toNat 0))+o))))-q))else
  m.getD i 0)=(ah i32 (a.length+1) λk=>af (decide (k=(W (d+n)).toNat)) [SV.int .u32 (V (U (U (U (m.getD (W (d+n)).toNat
  0)-U (V (U (U (G*U ((yX b).getD d.toNat 0))+o))))-q)))] [SV.int .u32 (m.getD k 0)]).getD i 0)/\(↑b.length<=d->(0<=W (n+
  ↑b.length)/\W (n+ ↑b.length)<((a.length+1:Nat):Int))/\W (n+ ↑b.length)< ↑a.length+1/\(0<=W (n+ ↑b.length)/\W (n+ ↑b.length)<((a.length+1:Nat):Int))/\
  W (n+ ↑b.length)< ↑a.length+1/\(¬U (U (U (m.getD (W (n+ ↑b.length)).toNat 0)-o)-q)/9223372036854775808=0->(mP a b n 0 0 (ah i32
  (a.length+1) λk=>af (decide (k=(W (n+ ↑b.length)).toNat)) [SV.int .u32 (V (U (U (U (m.getD (W (n+ ↑b.length)).toNat 0)-o)
  -q)))] [SV.int .u32 (m.getD k 0)])/\∀i,i<a.length+1->(if i=(W (n+ ↑b.length)).toNat then V (U (U (U (m.getD (W (n+ ↑b.length)).toNat
  0)-o)-q))else m.getD i 0)=(ah i32 (a.length+1) λk=>af (decide (k=(W (n+ ↑b.length)).toNat)) [SV.int .u32 (V (U (U
  (U (m.getD (W (n+ ↑b.length)).toNat 0)-o)-q)))] [SV.int .u32 (m.getD k 0)]).getD i 0)/\∀(e A:Int)(p:Ω),mP a
  b n e A p->(e< ↑b.length->(0<=W (e+n)/\W (e+n)<((a.length+1:Nat):Int))/\W (e+n)< ↑a.length+1/\(0<=e/\e< ↑b.length)/\e.toNat
  <b.length+1/\(0<=W (e+n)/\W (e+n)<((a.length+1:Nat):Int))/\W (e+n)< ↑a.length+1/\mP a b n (W (e+1)) (U (U (U (p.getD (W (e
  +n)).toNat 0)+U ((yX b).getD e.toNat 0))+A)/4294967296) (ah i32 (a.length+1) λk=>af (decide (k=(W (e+n)).toNat)) [SV.int
  IntKind.u32 (V (U (U (U (p.getD (W (e+n)).toNat 0)+U ((yX b).getD e.toNat 0))+A)))] [SV.int .u32 (p.getD k 0)])/\max (↑b.length
  -W (e+1)) 0< ↑b.length-e/\∀i,i<a.length+1->(if i=(W (e+n)).toNat then V (U (U (U (p.getD (W (e+n)).toNat 0)+U ((yX
  b).getD e.toNat 0))+A))else p.getD i 0)=(ah i32 (a.length+1) λk=>af (decide (k=(W (e+n)).toNat)) [SV.int .u32 (V
  (U (U (U (p.getD (W (e+n)).toNat 0)+U ((yX b).getD e.toNat 0))+A)))] [SV.int .u32 (p.getD k 0)]).getD i 0)/\(↑b.length<=e
  ->(0<=W (n+ ↑b.length)/\W (n+ ↑b.length)<((a.length+1:Nat):Int))/\W (n+ ↑b.length)< ↑a.length+1/\(0<=W (n+ ↑b.length)/\W (n+ ↑b.length)<((a.length+1:Nat):Int))/\W (n+ ↑b.length)< ↑a.length+1/\(0<=n/\n<max ((a.length:Int)-b.length+1) 0)/\n<((a.length-b.length:Nat):Int)+1/\inv1 a b (W (n-1)) (ah
  i32 (a.length+1) λk=>af (decide (k=(W (n+ ↑b.length)).toNat)) [SV.int .u32 (V (p.getD (W (n+ ↑b.length)).toNat 0+V A))] [SV.int
  IntKind.u32 (p.getD k 0)]) (ah i32 (a.length-b.length+1) λk=>af (decide (k=n.toNat)) [SV.int .u32 (V (U (G-1)))] [SV.int
  IntKind.u32 (r.getD k 0)])/\max (W (n-1)+1) 0<n+1/\(∀i,i<a.length+1->(if i=(W (n+ ↑b.length)).toNat then V (p.getD (W
  (n+ ↑b.length)).toNat 0+V A)else p.getD i 0)=(ah i32 (a.length+1) λk=>af (decide (k=(W (n+ ↑b.length)).toNat)) [SV.int .u32
  (V (p.getD (W (n+ ↑b.length)).toNat 0+V A))] [SV.int .u32 (p.getD k 0)]).getD i 0)/\∀i,i<a.length-b.length+1->(if i
  =n.toNat then V (U (G-1))else r.getD i 0)=(ah i32 (a.length-b.length+1) λk=>af (decide (k=n.toNat)) [SV.int .u32 (V (U
  (G-1)))] [SV.int .u32 (r.getD k 0)]).getD i 0))/\(U (U (U (m.getD (W (n+ ↑b.length)).toNat 0)-o)-q)/9223372036854775808=0->
  (0<=n/\n<max ((a.length:Int)-b.length+1) 0)/\n<((a.length-b.length:Nat):Int)+1/\inv1 a b (W (n-1)) (ah i32 (a.length+1) λk=>af (decide
  (k=(W (n+ ↑b.length)).toNat)) [SV.int .u32 (V (U (U (U (m.getD (W (n+ ↑b.length)).toNat 0)-o)-q)))] [SV.int .u32 (m.getD
  k 0)]) (ah i32 (a.length-b.length+1) λk=>af (decide (k=n.toNat)) [SV.int .u32 (V (G))] [SV.int .u32 (r.getD k 0)])
  /\max (W (n-1)+1) 0<n+1/\(∀i,i<a.length+1->(if i=(W (n+ ↑b.length)).toNat then V (U (U (U (m.getD (W (n+ ↑b.length)).toNat
  0)-o)-q))else m.getD i 0)=(ah i32 (a.length+1) λk=>af (decide (k=(W (n+ ↑b.length)).toNat)) [SV.int .u32 (V (U (U
  (U (m.getD (W (n+ ↑b.length)).toNat 0)-o)-q)))] [SV.int .u32 (m.getD k 0)]).getD i 0)/\∀i,i<a.length-b.length+1->
  (if i=n.toNat then V (G)else r.getD i 0)=(ah i32 (a.length-b.length+1) λk=>af (decide (k=n.toNat)) [SV.int .u32 (V (G))]
  [SV.int .u32 (r.getD k 0)]).getD i 0)):=by
 have B:=FK z;have al:=c.le;have aq:=c.n2;have ad:=c.HU;have aw:n+b.length<=a.length:=by unfold inv1 at z;exact z.2.1
 obtain⟨g0,g1,_,_⟩:=id R;rw[kE B.1.symm];have e2:W (n+ ↑b.length)=n+b.length:=aO (by omega) (by omega);have e3:(n+(b.length:Int)).toNat=n.toNat+b.length:=by omega
 have e4:W (n-1)=n-1:=aO (by omega) (by omega);rw[e2,e3,e4];refine⟨⟨c.VA z X,λ_ _=>rfl⟩,λi x w u N=>⟨λC=>?_,λC=>?_⟩⟩
 . have Z:0<=i:=by unfold kh at N;exact N.1
   have ul:=DU (by omega) N;have e1:W (i+n)=i+(n.toNat:Int):=by rw[aO (by omega) (by omega)];omega
   obtain⟨x0,x1,w0,w1,du,hs⟩:=c.KU g0 g1 N C;have vd:(yX b).getD i.toNat 0=v0 b/pw i.toNat%4294967296:=by rw[es,vdig _ (by omega)]
   rw[e1,aO (n:=i+1) (by omega) (by omega),vd];have ac:=hs _ _ rfl rfl;have J:0<=v0 b/pw i.toNat%4294967296:=by omega
   have ax:v0 b/pw i.toNat%4294967296<4294967296:=by omega
   generalize v0 b/pw i.toNat%4294967296=E at*
   have p0:0<=G*E:=Ja g0 J;have p1:G*E<=4294967295*4294967295:=Qb (by omega) (by omega) J (by omega);rw[ct (n:=E) J (by omega),ct (n:=G*E) p0 (by omega),ct (n:=G*E+x) (by omega) (by omega)];have q1:U (V (G*E+x))=(G*E+x)%4294967296:=by rw[iA,ct (by omega) (by omega)]
   rw[q1,ct (n:=u.getD (i+(n.toNat:Int)).toNat 0) (by omega) (by omega)];have q2:U (U (u.getD (i+(n.toNat:Int)).toNat 0-(G*E+x)%4294967296)-w)=U (u.getD (i+(n.toNat:Int)).toNat 0-(G*E+x)%4294967296-w):=by simp only[nt];omega
   rw[q2,tv ul.symm]
   and_intros<;>first|omega|assumption|exact λi C=>(bo (by omega)).symm
 . have ul:=DU (by omega) N;obtain⟨du,x0,x1,w0,w1,ed,F⟩:=c.Oi R N C;have q2:U (U (U (u.getD (n.toNat+b.length) 0)-x)-w)=U ((Big.bV a b n.toNat-G*v0 b)/pw b.length):=by rw[<-ed];simp only[nt];omega
   rw[q2,tv ul.symm];have H:∀y:Int,∀i,i<a.length+1->(if i=n.toNat+b.length then y else u.getD i 0)=(u.set (n.toNat+b.length) y).getD i 0:=λy i C=>(bo (by omega)).symm
   have hq:∀y:Int,∀i,i<a.length-b.length+1->(if i=n.toNat then y else r.getD i 0)=(ah i32 (a.length-b.length+1) λk=>af (decide (k=n.toNat)) [SV.int .u32 y] [SV.int .u32 (r.getD k 0)]).getD i 0:=λy i C=>by
    rw[tv B.2.symm];exact(bo (by omega)).symm
   rcases Qe ((Big.bV a b n.toNat-G*v0 b)/pw b.length) 0 with hd|hd
   . obtain⟨r1,r2,r3⟩:=c.Ek R hd;rw[r3];have q3:U (-1)=18446744073709551615:=by rw[nt];rfl
     have q4:V 18446744073709551615=4294967295:=by rw[iA];rfl
     rw[q3,q4];refine⟨by omega,by omega,by omega,by omega,λ_=>⟨⟨?_,H _⟩,λi x u' O=>⟨λC=>?_,λC=>?_⟩⟩,λh=>absurd h (by decide)⟩
     . refine V9 ?_;rw[F,r2]
     . have Z:0<=i:=by unfold mP at O;exact O.1
       have K:=FA (by omega) O;have e1:W (i+n)=i+(n.toNat:Int):=by rw[aO (by omega) (by omega)];omega
       obtain⟨x0,x1,du,hs⟩:=c.inv4_step O C;have vd:(yX b).getD i.toNat 0=v0 b/pw i.toNat%4294967296:=by rw[es,vdig _ (by omega)]
       rw[e1,aO (n:=i+1) (by omega) (by omega),vd,ct (n:=u'.getD (i+(n.toNat:Int)).toNat 0) (by omega) (by omega),ct (n:=v0 b/pw i.toNat%4294967296) (by omega) (by omega),ct (n:=u'.getD (i+(n.toNat:Int)).toNat 0+v0 b/pw i.toNat%4294967296) (by omega) (by omega),ct (by omega) (by omega),tv K.symm];have ac:=hs _ rfl
       and_intros<;>first|omega|assumption|exact λi C=>(bo (by omega)).symm
     . have K:=FA (by omega) O;obtain⟨y1,y2,y3⟩:=c.ME O C;rw[y1,y2];have z1:V (4294967295+V 1)=0:=by simp only[iA];rfl
       have z2:V (U (G-1))=Big.bV a b n.toNat/v0 b:=by
        have:=c.O6 n.toNat;rw[ct (by omega) (by omega),Aj (by omega) (by omega)];exact r1
       rw[z1,z2,tv K.symm];have L:∀i,i<a.length+1->(if i=n.toNat+b.length then(0:Int)else u'.getD i 0)=(u'.set (n.toNat+b.length) 0).getD i 0:=λi C=>(bo (by omega)).symm
       have M:=c.yw (u':=u'.set (n.toNat+b.length) 0) z X (by
        rw[y3,show a.length+1-n.toNat-b.length=(a.length-n.toNat-b.length)+1 by omega,Qy])
       have D:inv1 a b (n-1) (u'.set (n.toNat+b.length) 0) (ah i32 (a.length-b.length+1) λk=>af (decide (k=n.toNat)) [SV.int .u32 (Big.bV a b n.toNat/v0 b)] [SV.int .u32 (r.getD k 0)]):=by rw[tv B.2.symm];exact M
       refine⟨by omega,by omega,by omega,by omega,by omega,by omega,D,by omega,L,hq _⟩
   . obtain⟨r1,r2,r3⟩:=c.EV R hd;rw[r3];have q3:U 0=0:=by rw[nt];rfl
     have q4:V 0=0:=by rw[iA];rfl
     rw[q3,q4];have z2:V G=Big.bV a b n.toNat/v0 b:=by rw[Aj (by omega) (by omega)];exact r1
     have M:=c.yw (u':=u.set (n.toNat+b.length) 0) z X (by
      rw[F,r2,show a.length+1-n.toNat-b.length=(a.length-n.toNat-b.length)+1 by omega,Qy])
     have D:inv1 a b (n-1) (u.set (n.toNat+b.length) 0) (ah i32 (a.length-b.length+1) λk=>af (decide (k=n.toNat)) [SV.int .u32 (Big.bV a b n.toNat/v0 b)] [SV.int .u32 (r.getD k 0)]):=by rw[tv B.2.symm];exact M
     rw[z2];refine⟨by omega,by omega,by omega,by omega,λh=>absurd (by decide) h,λ_=>⟨by omega,by omega,D,by omega,H 0,hq _⟩⟩
theorem Ny(a b:Ω):u0 a b%v0 b=(nv a%nv b)*2^(rX b).toNat:=by
 unfold u0 v0;rw[J6 (nv a),J6 (nv b),Int.mul_emod_mul_of_pos _ _ (two_pos _),J6]
theorem QF{z:Int}{s:Nat}(r:s<32)(d:0<s)(i:Nat):z/pw i%4294967296=(z*2^s)/pw i%4294967296/2^s+2^(32-s)*((z*2^s)/pw (i+1)%4294967296%2^s):=by
 have c:=two_pos s;have u:=two_pos (32-s);have b:(2:Int)^(32-s)*2^s=4294967296:=by rw[<-Int.pow_add,show 32-s+s=32 by omega];rfl
 have e:z/pw i=(z*2^s)/pw i/2^s:=by
  rw[Qd (by have:=bN i;omega),KN _ _ c]
 rw[e,<-cq];generalize z*2^s/pw i=Z;have h:Z=Z%4294967296+2^s*(2^(32-s)*(Z/4294967296)):=by
  rw[<-Int.mul_assoc,J6 (2^s),b];omega
 have j:Z/2^s=Z%4294967296/2^s+2^(32-s)*(Z/4294967296):=by
  conv=>lhs;rw[h]
  rw[X3 _ _ (by omega)]
 have k:(Z/4294967296)=2^s*(Z/4294967296/2^s)+Z/4294967296%2^s:=(Qs _ _).symm;have m:(2:Int)^(32-s)*(Z/4294967296)=4294967296*(Z/4294967296/2^s)+2^(32-s)*(Z/4294967296%2^s):=by
  conv=>lhs;rw[k]
  rw[Kg,<-Int.mul_assoc,b]
 have o:Z/4294967296%4294967296%2^s=Z/4294967296%2^s:=Int.emod_emod_of_dvd _ ⟨2^(32-s),by rw[J6];exact b.symm⟩;rw[j,m,o];have w:0<=Z%4294967296/2^s:=Kb (by omega) (by omega);have x:Z%4294967296/2^s<2^(32-s):=(Kl c).2 (by rw[b];omega);have p:=Jm (Z/4294967296) (show(2:Int)^s≠0 by omega);have y:=Jo (Z/4294967296) c;have q:(2:Int)^(32-s)*(Z/4294967296%2^s)<=2^(32-s)*(2^s-1):=Jt (by omega) (by omega);rw[Qm,b,Ke]at q
 have A:0<=(2:Int)^(32-s)*(Z/4294967296%2^s):=Ja (by omega) p;omega
theorem Ux{x y:Int}{s:Nat}(o:s<32)(e:0<s)(c:GD x)(p:GD y):bits .or .u32 (x/2^s) (V (y*2^(32-s)))=x/2^s+2^(32-s)*(y%2^s):=by
 have d:=two_pos s;have h:=two_pos (32-s);have b:(2:Int)^(32-s)*2^s=4294967296:=by rw[<-Int.pow_add,show 32-s+s=32 by omega];rfl
 have i:V (y*2^(32-s))=2^(32-s)*(y%2^s):=by
  rw[iA,<-b,J6 y,Int.mul_emod_mul_of_pos _ _ h]
 have j:x/2^s<2^(32-s):=(Kl d).2 (by rw[b];exact c.2);have k:=Jm y (show(2:Int)^s≠0 by omega);have q:=Jo y d;have m:(2:Int)^(32-s)*(y%2^s)<=2^(32-s)*(2^s-1):=Jt (by omega) (by omega);rw[Qm,b,Ke]at m;rw[i];exact NS (Kb c.1 (by omega)) j k (by omega)
theorem Ft{a b:Ω}{i:Int}{r:Ω}(h:rC a b i r):r.length=b.length:=by
 unfold rC at h;obtain⟨c,d,rfl⟩:=h;simp;omega
theorem VN(a b:Ω):rC a b 0 (List.replicate b.length 0):=by
 unfold rC;simp[dg]
theorem Bi{a b:Ω}{i v:Int}{r:Ω}(h:rC a b i r)(e:i<b.length)(c:v=(nv a%nv b)/pw i.toNat%4294967296):rC a b (i+1) (r.set i.toNat v):=by
 unfold rC at h⊢;obtain⟨j,k,d⟩:=h;rw[show(i+1).toNat=i.toNat+1 by omega];refine⟨by omega,by omega,?_⟩;have:=aaO (t:=0) (v:=v) d (by omega) (by rw[c];simp);rw[this];simp
theorem P4{a b:Ω}{i:Int}{r:Ω}(h:rC a b i r)(d:(b.length:Int)<=i):r=dg b.length (nv a%nv b):=by
 unfold rC at h;obtain⟨j,k,c⟩:=h;have e:i.toNat=b.length:=by omega
 rw[c,e];simp
set_option maxHeartbeats 4000000 in
theorem k381:aH prog Wm:=av k393 hm func381 (by kernel_rfl) (by kernel_rfl) To.ok (by kernel_rfl) (λa=>ZJ a.1 a.2) λa N=>by
 have h:Se a.1 a.2:=by
  rw[<-NH];simp only[aA];obtain⟨a,b⟩:=a;dsimp only at N;simp[-List.getD_eq_getElem?_getD,O4];obtain⟨f1,f2,f3⟩:=vW N;have ca:=jV f1;have O:=jV f2;have la:=iC f1;have lb:=iC f2;have R:0<b.length:=by
   rcases Nat.eq_zero_or_pos b.length with h|h
   . rw[List.eq_nil_of_length_eq_zero h]at f3;simp[nv]at f3
   . exact h
  refine⟨⟨CL f1,CL f2⟩,λaD=>?_,λD=>⟨λh1=>?_,λh1=>?_⟩⟩
  . have w:nv a<nv b:=by
     rcases Int.lt_or_le (nv a) (nv b)with h|h
     . exact h
     . have:=mW.2 h;omega
    have eq:qL a b=[]:=by unfold qL;rw[if_pos w]
    have E:rL a b=a:=by unfold rL;rw[if_pos w]
    rw[eq,E];exact⟨⟨by omega,by omega⟩,rfl,rfl,λ_ _=>rfl⟩
  . have F:=mW.1 D;have j:b.length=1:=by omega
    have eq:qL a b=vq a (b.getD 0 0):=by unfold qL;rw[if_neg (by omega),if_pos j]
    have E:rL a b=[nv a%b.getD 0 0]:=by unfold rL;rw[if_neg (by omega),if_pos j]
    rw[eq,E];have hd:=bH O.1 0;have X:=O.2 (by intro e;rw[e]at j;simp at j);rw[j,show 1-1=0 from rfl]at X;have Z:zO a (b.getD 0 0):=by unfold zO;exact⟨sX f1,by omega,hd.2⟩
    exact⟨by omega,Z,⟨rfl,λ_ _=>rfl⟩,rfl,rfl⟩
  . have F:=mW.1 D;have c:=SR N F (by omega);have z:=sf_eq R (by omega);have es:yX b=dg (b.length+1) (v0 b):=by unfold yX Lf;rw[O4,z];unfold v0;rfl
    have eu:Wb a b=dg (a.length+1) (u0 a b):=by unfold Wb Lf;rw[O4,z];unfold u0;rfl
    have A:=c.n2;have bb:=c.le;have em:mm a b=a.length-b.length:=by unfold mm;exact aO (by omega) (by omega)
    have w1:W ((b.length:Int)-1)=b.length-1:=aO (by omega) (by omega);have w2:W ((b.length:Int)-2)=b.length-2:=aO (by omega) (by omega);have w3:W (mm a b+1)=a.length-b.length+1:=by rw[em];exact aO (by omega) (by omega)
    have t1:=c.top;have n1:((b.length:Int)-1).toNat=b.length-1:=by omega
    have n2:((b.length:Int)-2).toNat=b.length-2:=by omega
    have dt:=bH O.1 (b.length-1);have v1:(yX b).getD (b.length-1) 0=v0 b/pw (b.length-1):=by rw[es,vdig _ (by omega)];exact t1.1
    have v2:(yX b).getD (b.length-2) 0=v0 b/pw (b.length-2)%4294967296:=by rw[es,vdig _ (by omega)]
    have vl:(yX b).length=b.length+1:=by rw[es];simp
    have ul:(Wb a b).length=a.length+1:=by rw[eu];simp
    have u1:U (v0 b/pw (b.length-1))=v0 b/pw (b.length-1):=ct (by omega) (by omega);have u2:U (v0 b/pw (b.length-2)%4294967296)=v0 b/pw (b.length-2)%4294967296:=ct (by omega) (by omega);have H:Ad a (sf b):=by unfold Ad;rw[z];exact⟨sX f1,c.s0,c.s1⟩
    have J:Ad b (sf b):=by unfold Ad;rw[z];exact⟨sX f2,c.s0,c.s1⟩
    rw[w1,w2,w3,n1,n2,v1,v2,vl,ul,u1,u2,kE ul.symm,em];have ac:pq (b.getD (b.length-1) 0):=by unfold pq;exact dt
    have i0:=c.V5;rw[<-eu]at i0;refine⟨by omega,ac,H,J,by omega,by omega,by omega,by omega,by omega,by omega,⟨i0,⟨rfl,λ_ _=>rfl⟩,by omega,λi B=>(gR _ _).symm⟩,λn l ad d=>⟨λA=>?_,λA=>?_⟩⟩
    . have bd:n+b.length<=a.length:=by unfold inv1 at d;exact d.2.1
      have e2:W (n+ ↑b.length)=n+b.length:=aO (by omega) (by omega);have e3:W (n+(b.length:Int)-1)=n+b.length-1:=aO (by omega) (by omega);have e4:W (n+(b.length:Int)-2)=n+b.length-2:=aO (by omega) (by omega);have x2:(n+(b.length:Int)).toNat=n.toNat+b.length:=by omega
      have x3:(n+(b.length:Int)-1).toNat=n.toNat+(b.length-1):=by omega
      have x4:(n+(b.length:Int)-2).toNat=n.toNat+(b.length-2):=by omega
      have wt:=c.CJ n.toNat;have al:=c.wb n.toNat;have q:0<=Big.bV a b n.toNat/pw (b.length-1):=Int.ediv_nonneg al.1 (by have:=bN (b.length-1);omega);have g1:U (U (Big.bV a b n.toNat/pw b.length%4294967296)*4294967296)=Big.bV a b n.toNat/pw b.length%4294967296*4294967296:=by
       rw[ct (n:=Big.bV a b n.toNat/pw b.length%4294967296) (by omega) (by omega),ct (by omega) (by omega)]
      have K:∀x y:Int,0<=x->x<4294967296->GD y->bits BinOp.or IntKind.u64 (x*4294967296) y=x*4294967296+y:=by
       intro x y hx be hy;have:=yZ (u:=y) (y:=x) (r:=32) hy.1 (by have:=hy.2;omega) hx (by have:=hy.2;omega);rw[show(2:Int)^32=4294967296 from rfl]at this;rw[Bo,Int.mul_comm,this];omega
      have num:bits BinOp.or IntKind.u64 (U (U (l.getD (n.toNat+b.length) 0)*4294967296)) (U (l.getD (n.toNat+(b.length-1)) 0))=Big.bV a b n.toNat/pw (b.length-1):=by
       rw[c.Wv d A (by omega),c.Wv d A (by omega),g1,ct (by omega) (by omega),K _ _ (by omega) (by omega) ⟨by omega,by omega⟩];exact wt.2.2.1
      have u3:U (l.getD (n.toNat+(b.length-2)) 0)=Big.bV a b n.toNat/pw (b.length-2)%4294967296:=by
       rw[c.Wv d A (by omega),ct (by omega) (by omega)]
      rw[e2,e3,e4,x2,x3,x4,num,u3,Int.tdiv_eq_ediv_of_nonneg q,Int.tmod_eq_emod_of_nonneg q];have bf:Big.bV a b n.toNat/pw (b.length-1)<18446744073709551616:=by
       have h1:=wt.2.2.2;have p:(v0 b/pw (b.length-1)+1)*4294967296<=4294967296*4294967296:=Int.mul_le_mul_of_nonneg_right (by omega) (by omega);omega
      have uq:U (Big.bV a b n.toNat/pw (b.length-1)/(v0 b/pw (b.length-1)))=Big.bV a b n.toNat/pw (b.length-1)/(v0 b/pw (b.length-1)):=by
       refine ct (Int.ediv_nonneg q (by omega)) ?_;have:=Int.ediv_le_self (v0 b/pw (b.length-1)) q;omega
      rw[uq];have core:=λ(G:Int)(hG:ak a b n G)=>ZU c d A hG es
      rw[e2,x2]at core;refine⟨by omega,by omega,by omega,by omega,by omega,c.Wk,λg r p=>?_⟩;have r0:0<=r:=by unfold inv2 at p;exact p.1
      have r1:r<4294967296:=by unfold inv2 at p;exact p.2.1
      have gq:Big.bV a b n.toNat/v0 b<=g:=by unfold inv2 at p;exact p.2.2.2
      have ge:g*(v0 b/pw (b.length-1))+r=Big.bV a b n.toNat/pw (b.length-1):=by unfold inv2 at p;exact p.2.2.1
      have hq:=c.O6 n.toNat;have bh:g<18446744073709551616:=by
       have:g*1<=g*(v0 b/pw (b.length-1)):=Int.mul_le_mul_of_nonneg_left (by omega) (by omega);omega
      rw[ct (n:=r+v0 b/pw (b.length-1)) (by omega) (by omega)];have aq:bits BinOp.or IntKind.u64 (U (r*4294967296)) (Big.bV a b n.toNat/pw (b.length-2)%4294967296)=r*4294967296+Big.bV a b n.toNat/pw (b.length-2)%4294967296:=by
       rw[ct (by omega) (by omega),K _ _ r0 r1 ⟨by omega,by omega⟩]
      rw[aq];have again:(4294967296<=g\/r*4294967296+Big.bV a b n.toNat/pw (b.length-2)%4294967296<g*(v0 b/pw (b.length-2)%4294967296))->U (g-1)=g-1/\(4294967296<=r+v0 b/pw (b.length-1)->ak a b n (g-1))/\(r+v0 b/pw (b.length-1)<4294967296->inv2 a b n (g-1) (r+v0 b/pw (b.length-1))/\max (g-1) 0<g):=by
       intro L;obtain⟨s1,s2,s3,s4,s5⟩:=c.XL p L;refine⟨ct (by omega) (by omega),λm=>?_,λm=>⟨s5 m,by omega⟩⟩;refine c.It s3 s4 ?_ (by omega) (.inl m);rcases Int.lt_or_le g 4294967296 with h|h
       . omega
       . rcases s2 h with h|h
         . omega
         . exact h
      refine⟨λhg=>?_,λhg=>?_⟩
      . obtain⟨a1,a2,a3⟩:=again (.inl hg);rw[a1];exact⟨λm=>core _ (a2 m),λm=>a3 m⟩
      . have p0:0<=g*(v0 b/pw (b.length-2)%4294967296):=Int.mul_nonneg (by omega) (by omega);have p1:g*(v0 b/pw (b.length-2)%4294967296)<=4294967295*4294967295:=Int.mul_le_mul (by omega) (by omega) (by omega) (by omega);rw[ct p0 (by omega)];refine⟨by omega,by omega,λL=>?_,λL=>?_⟩
        . obtain⟨a1,a2,a3⟩:=again (.inr L);rw[a1];exact⟨λm=>core _ (a2 m),λm=>a3 m⟩
        . exact core g (c.It gq ge hg r0 (.inr L))
    . obtain⟨M,aw⟩:=MX d A;have bi:=c.s0;have bp:=c.s1;rw[z,ct (n:=rX b) (by omega) (by omega),aO (n:=32-rX b) (by omega) (by omega),ct (n:=32-rX b) (by omega) (by omega)];have eq:qL a b=ad:=by unfold qL;rw[if_neg (by omega),if_neg (by omega),aw]
      refine⟨by omega,⟨VN a b,λi B=>(gR _ _).symm⟩,λi r C=>⟨λB=>?_,λB=>?_⟩⟩
      . have bt:0<=i:=by unfold rC at C;exact C.1
        have o:=Ft C;have e1:W (i+1)=i+1:=aO (by omega) (by omega);have d1:l.getD i.toNat 0=(nv a%nv b)*2^(rX b).toNat/pw i.toNat%4294967296:=by rw[M,tA _ (by omega),Ny]
        have d2:l.getD (i+1).toNat 0=(nv a%nv b)*2^(rX b).toNat/pw (i.toNat+1)%4294967296:=by rw[M,tA _ (by omega),Ny,show(i+1).toNat=i.toNat+1 by omega]
        rw[e1,d1,d2,show min (rX b).toNat 32=(rX b).toNat by omega,show min (32-rX b).toNat 32=32-(rX b).toNat by omega];refine⟨by omega,by omega,by omega,by omega,by omega,λz=>?_,λz=>?_⟩
        . have ho:=Ux (x:=(nv a%nv b)*2^(rX b).toNat/pw i.toNat%4294967296) (y:=(nv a%nv b)*2^(rX b).toNat/pw (i.toNat+1)%4294967296) (s:=(rX b).toNat) (by omega) (by omega) ⟨by omega,by omega⟩ ⟨by omega,by omega⟩;rw[<-QF (by omega) (by omega)]at ho;rw[ho,Vn (by omega)];have ax:=Bi C B rfl;have ay:∀x y:Int,(r.set i.toNat x).set i.toNat y=r.set i.toNat y:=λx y=>by simp
          rw[ay]
          and_intros<;>first|omega|assumption|skip
          intro k hk;rw[bo (by omega)];split
          . rfl
          . rename_i bv;rfl
        . have az:(rX b).toNat=0:=by omega
          rw[az];simp only[Int.pow_zero,Int.mul_one,Int.ediv_one];rw[tv o.symm];have ax:=Bi C B rfl
          and_intros<;>first|omega|assumption|exact λi B=>(bo (by omega)).symm
      . have E:rL a b=r:=by unfold rL;rw[if_neg (by omega),if_neg (by omega),P4 C B]
        rw[eq,E];have o:=Ft C;have bz:=(FK d).2;exact⟨by omega,⟨by omega,λ_ _=>rfl⟩,o.symm,λ_ _=>rfl⟩
 exact h
def yA(a b x y:Int):Prop:=0<=x/\0<=y/\fit x/\fit y/\Int.gcd x y=Int.gcd a b
def xB(z:Int)(w i:Int)(b:Bool):Prop:=0<=i/\(i<=w\/i=0)/\b= !decide (nv ((dz z).take i.toNat)=0)
def dB(z:Int)(w r:Nat)(i:Int)(b:Ω):Prop:=(w:Int)<=i/\(i<=(dz z).length\/i=w)/\b=dg (i.toNat-w) ((z.natAbs:Int)/pw w/2^r)
attribute [irreducible] yA xB dB
def c284:bB:=ow sZ.dec (λa=>fit a) (λa=>iS (bl a))
def WB:List (Nat×bB):=(284,c284)::Wm
def TM(z:Int):Prop:=fQ Wm f284 [] [zS z] (iS (bl z))
def c340:bB:=ow DK.dec (λa=>fit a.1/\fit a.2/\a.2≠0) (λa=>.df [zS (a.1.tdiv a.2),zS (a.1.tmod a.2)])
def U9:List (Nat×bB):=(340,c340)::WB
def SD(x:Int)(y:Int):Prop:=fQ WB f340 [] [zS x,zS y] (.df [zS (x.tdiv y),zS (x.tmod y)])
def c362:bB:=ow DK.dec (λa=>fit a.1/\fit a.2) (λa=>zS (Int.gcd a.1 a.2:Int))
def VP:List (Nat×bB):=(362,c362)::U9
def a362(x:Int)(y:Int):List kM:=[⟨.unit,.list [.cod aj 3 0,.cod aj 4 0],λ_ (s:Int×Int)=>yA x y s.1 s.2,λ_ (s:Int×Int)=>s.2.toNat⟩]
def SM(x:Int)(y:Int):Prop:=fQ U9 f362 (a362 x y) [zS x,zS y] (zS (Int.gcd x y:Int))
def c394:bB:=ow T0.dec (λa=>fit a.1/\di a.2) (λa=>zS (a.1/2^a.2.toNat))
def Wn:List (Nat×bB):=(394,c394)::VP
def aad(z:Int)(n:Int):List kM:=[⟨.unit,.list [.int .i64 (.tm 10),.bool (.tm 9)],λ_ (s:Int×Bool)=>xB z (n.toNat/32:Nat) s.1 s.2,λ_ (s:Int×Bool)=>(n-s.1).toNat⟩,⟨.unit,.list [.int .i64 (.tm 12),.ah i32 2 41 [.tm 11]],λ_ (s:Int×Ω)=>dB z (n.toNat/32) (n.toNat%32) s.1 s.2,λ_ (s:Int×Ω)=>((dz z).length-s.1).toNat⟩]
def SN(z:Int)(n:Int):Prop:=fQ VP f394 (aad z n) [zS z,iS n] (zS (z/2^n.toNat))
theorem LL(z:Int):(
 let g:=λ(x:Int)(y:Nat)=>(aF IntKind.u32).enc ((dz x).getD y 0)
 let d:=λ(x:Int)=>(↑(dz (zz x)).length:Int)
 let e:=λ(x:Int)=>d x==0
 let c:=λ(x:Int)=>W (d x-1)
 let f:=λ(x:Int)=>(dz (zz x)).getD (c x).toNat 0
 ab 2 ((aj.ak [SV.bool (decide (z<0)),SV.bF 1 (dz z).length λi=>g z i]/\fit (zz z))/\ab 2 ((e z=true->ab 2 (0=bl z/\True))/\(e z=false
  ->(0<=c z/\c z<d z)/\True/\(True/\pq (f z))/\ab 2 (W (W (32*c z)+bl (f z))=bl z/\True)))))=TM z:=by kernel_rfl
theorem PK(x:Int)(y:Int):(
 let d:=aF IntKind.u32
 let q:=λ(x:Int)(y:Nat)=>d.enc ((dz x).getD y 0)
 let j:=λ(x:Int)=>aj.ak [SV.bool (decide (x<0)),SV.bF 1 (dz x).length λi=>q x i]/\fit (zz x)
 let h:=true=true/\True
 let k:=λ(x:Int)=>∀i,i<(dz (zz x)).length->h
 let r:=λ(x:Int)(y:Nat)=>d.enc ((dz (zz x)).getD y 0)
 let c:=λ(x:Int)=>ah d (dz (zz x)).length λi=>r x i
 let s:=λ(x y:Int)(u:Nat)=>d.enc ((qL (c x) (c y)).getD u 0)
 let o:=λ(x y:Int)=>ah d (qL (c x) (c y)).length λi=>s x y i
 let t:=λ(x y:Int)(u:Nat)=>d.enc ((rL (c x) (c y)).getD u 0)
 let f:=λ(x y:Int)=>ah d (rL (c x) (c y)).length λi=>t x y i
 let e:=λ(x:Int)=>decide (zz x<0)
 let g:=λ(x y:Int)=>zv (!e x==e y) (o x y)
 let p:=λ(x y:Int)=>(dz (zv (e x) (f x y))).length
 ab 2 (j x/\ab 2 (j y/\ab 3 (((k x/\k y)/\tY (c x) (c y))/\ab 3 (((True/\∀i,i<(qL (c x) (c y)).length->h)/\br (o x y))/\ab 2 (((True
  /\∀i,i<(rL (c x) (c y)).length->h)/\br (f x y))/\ab 3 (((decide (g x y<0)=decide (x.tdiv y<0)/\((dz (g x y)).length=(dz (x.tdiv y)).length
  /\∀i,i<(dz (g x y)).length->(dz (g x y)).getD i 0=(dz (x.tdiv y)).getD i 0/\True)/\True)/\(decide (zv (e x) (f x y)<0)=decide (x.tmod y<0)
  /\(p x y=(dz (x.tmod y)).length/\∀i,i<p x y->(dz (zv (e x) (f x y))).getD i 0=(dz (x.tmod y)).getD i 0/\True)/\True)/\True)/\True)))))))=SD x y:=by kernel_rfl
theorem vc362_eq(x:Int)(y:Int):(
 let h:=λ(x:Int)=>decide (x<0)
 let d:=λ(x:Int)=>(dz x).length
 let q:=λ(x:Int)(y:Nat)=>(dz x).getD y 0
 let z:=λ(x:Int)=>λi=>(aF IntKind.u32).enc (q x i)
 let f:=λ(x:Int)=>aj.ak [SV.bool (h x),SV.bF 1 (d x) (z x)]
 let c:=λ(x:Int)=>zz x
 let w:=ru true
 let e:=λ(x:Int)=>(↑(c x).natAbs:Int)
 let j:=λ(x:Int)=>zz (e x)
 let A:=ab 42 True
 let r:=([]:List ar)
 let B:=λ(x:Int)=>List.map ar.shape (ar.s (SV.bool (h x))::ar.s (SV.bF 1 (d x) (z x))::r)
 let t:=λ(x:Int)=>B x=B x
 let u:=λ(x:Int)=>sm (h x)/\(sm (d x)/\∀i,i<d x->sm (q x i)/\True)/\True
 let C:=List.map ar.shape (ar.s SV.ff::r++(ar.s SV.aq::r++r))
 let g:=C=C
 let D:=ab 2 True
 let E:=λ(x:Int)=>decide (e x<0)=decide (j x<0)/\((dz (e x)).length=(dz (j x)).length/\∀i,i<(dz (e x)).length->(dz (e x)).getD i 0
  =(dz (j x)).getD i 0/\True)/\True
 let F:=λ(x:Int)=>decide (↑(d x)>(0:Int))
 let v:=λ(x:Int)=>decide (↑(d x)<=(2:Int))
 let k:=λ(x y:Int)=>(↑((e x).gcd (e y)):Int)
 let G:=λ(x y:Int)=>decide (↑(x.gcd y)<0)
 let H:=λ(x y:Int)=>(dz ↑(x.gcd y)).length
 let J:=λ(x y:Int)(m:Nat)=>(dz ↑(x.gcd y)).getD m 0
 let o:=λ(x y:Int)=>(c x).tmod (c y)
 let p:=λ(x y:Int)=>zz (o x y)
 let K:=λ(x y m s:Int)=>((f x/\f y)/\fit (c x)/\fit (c y)/\c y≠0)/\True/\w/\yA m s (c y) (p x y)/\(p x y).toNat<y.toNat/\A/\t m/\u m/\
  t s/\u s/\g/\D/\g/\(h y=decide (c y<0)/\(d y=(dz (c y)).length/\∀i,i<d y->q y i=(dz (c y)).getD i 0/\True)/\True)/\g/\(decide (o
  x y<0)=decide (p x y<0)/\((dz (o x y)).length=(dz (p x y)).length/\∀i,i<(dz (o x y)).length->(dz (o x y)).getD i 0=(dz (p x y)).getD i 0
  /\True)/\True)/\True
 ab 2 ((f x/\fit (c x))/\True/\(f y/\fit (c y))/\w/\(yA x y (j x) (j y)/\A/\t x/\u x/\t y/\u y/\g/\D/\g/\E x/\g/\E y/\True)/\∀(a b:Int),
  yA x y a b->True/\(F b=true->(v a=true->True/\(v b=true->True/\(f a/\wz (c a))/\True/\(f b/\wz (c b))/\ab 2 (((True/\True)
  /\jW (e a)/\jW (e b))/\True/\(True/\jW (k a b))/\w/\True/\(decide (k a b<0)=G x y/\((dz (k a b)).length=H x y/\∀i,i<(dz
  (k a b)).length->(dz (k a b)).getD i 0=J x y i/\True)/\True)/\True))/\(v b=false->ab 2 (K a b x y)))/\(v a=false->ab 3 (K a b x y)))/\
  (F b=false->ab 2 ((h a=G x y/\(d a=H x y/\∀i,i<d a->q a i=J x y i/\True)/\True)/\True))))=SM x y:=by kernel_rfl
theorem Nc(z:Int)(n:Int):(
 let A:=λ(m:Int)=>(dz m).length
 let o:=aF IntKind.u32
 let f3:=λ(m:Int)(s:Nat)=>o.enc ((dz m).getD s 0)
 let d0:=λ(m:Int)=>SV.bF 1 (A m) λi=>f3 m i
 let C:=([]:List SV)
 let d1:=(32:Int)≠(0:Int)
 let B:=λ(m:Int)=>m.toNat/32
 let D:=λ(m:Int)=>(↑(B m):Int)
 let k:=λ(m:Int)=>decide (zz m<0)
 let t:=λ(m:Int)=>sm (k m)
 let u:=λ(m:Int)=>dz (zz m)
 let c0:=λ(m:Int)=>(u m).length
 let v:=λ(m:Int)=>sm (c0 m)/\∀i,i<c0 m->sm ((u m).getD i 0)/\True
 let g:=λ(m:Int)=>W (m.tdiv 32)
 let p:=λ(m:Int)=>sm (g m)
 let E:=λ(m:Int)=>U (m.tmod 32)
 let w:=λ(m:Int)=>sm (E m)
 let c1:=ab 92 True
 let F:=([]:List ar)
 let d2:=λ(m:Int)=>List.map ar.shape (ar.s (SV.bool (decide (m<0)))::ar.s (d0 m)::F)
 let G:=λ(m:Int)=>d2 m=d2 m
 let H:=λ(m:Int)=>sm (decide (m<0))/\(sm (A m)/\∀i,i<A m->sm ((dz m).getD i 0)/\True)/\True
 let d3:=List.map ar.shape (ar.s SV.ff::F++(ar.s SV.aq::F++F))
 let J:=d3=d3
 let K:=ab 2 True
 let c2:=λ(m:Int)=>G m/\H m/\J/\K/\True
 let d:=λ(m:Int)=>(↑(c0 m):Int)
 let c:=λ(m:Int)=>W (m+1)
 let L:=true=true
 let d4:=λ(m s:Int)=>(u m).getD s.toNat 0 !=0
 let M:=λ(m:Int)=>m.toNat%32
 let x:=sm 0
 let c3:=ab 90 True
 let q:=i32
 let c4:=q.n
 let c5:=λ(m:Int)=>0<=E m
 let c6:=1<=1
 let c7:=∀(j:Nat),j<1->L
 let h:=λ(m:Ω)=>m.length
 let e:=λ(m:Ω)=>h m+1
 let d5:=λ(m:Ω)=>x/\h m=h m/\e m<=140737488355328/\e m*4<=140737488355328
 let N:=λ(m:Nat)(s:Ω)=>decide (m<h s)
 let r:=q.qW
 let d6:=λ(m s:Int)=>U ((u m).getD s.toNat 0)
 let d7:=λ(m:Int)=>(2:Int)^min (E m).toNat (64:Nat)
 let d8:=λ(m s Z:Int)=>V (bits BinOp.or IntKind.u64 (d6 m s) (U (U ((u m).getD (c s).toNat 0)*4294967296))/d7 Z)
 let O:=λ(m:Ω)(s Z y1:Int)=>ah q (e m) λj=>af (N j m) (q.enc (m.getD j r)) (SV.int .u32 (d8 s Z y1)::C)
 let d9:=λ(m s:Int)=>(↑(A m)-c s).toNat<(↑(A m)-s).toNat
 let P:=([]:List (Option (Nat×Nat)))
 let e0:=1=c4
 let e1:=λ(m s Z:Int)=>V (d6 m s/d7 Z)
 let Q:=λ(m:Ω)(s Z y1:Int)=>ah q (e m) λj=>af (N j m) (q.enc (m.getD j r)) (SV.int .u32 (e1 s Z y1)::C)
 let e2:=λ(m s:Int)=>bits BinOp.and IntKind.u32 ((u m).getD (g s).toNat 0) (V (V (1*2^min (E s).toNat 32)-1)) !=0
 let e3:=λ(m:Ω)=>0+h m<=h m/\∀i,i<h m->L
 let R:=L/\True
 let e4:=λ(m:Ω)=>∀i,i<h m->R
 let f4:=λ(m:Ω)(s:Nat)=>q.enc (m.getD (0+s) r)
 let f:=λ(m:Ω)=>ah o (h m) λi=>f4 m i
 let e5:=λ(m:Ω)=>(List.take (tl (f m)) (f m)).length
 let f5:=λ(m:Ω)(s:Nat)=>o.enc ((List.take (tl (f m)) (f m)).getD s 0)
 let c8:=λ(m:Ω)=>ah o (e5 m) λi=>f5 m i
 let c9:=ah o 1 λi=>SV.int .u32 1::C
 let e6:=λ(m:Ω)=>(cf (c8 m) c9).length
 let f6:=λ(m:Ω)(s:Nat)=>o.enc ((cf (c8 m) c9).getD s 0)
 let T:=λ(m:Ω)=>ah o (e6 m) λi=>f6 m i
 let y:=λ(m s:Int)=>m/2^s.toNat
 let e7:=λ(m:Ω)=>(dz (zv true (T m))).length
 let e8:=λ(m:Ω)(s Z:Int)=>e3 m/\(e4 m/\br (f m))/\True/\(c6/\c7)/\(((∀i,i<e5 m->R)/\∀i,i<1->R)/\br (c8 m)
  /\br c9)/\ab 2 (((True/\∀i,i<e6 m->R)/\br (T m))/\ab 2 ((decide (zv true (T m)<0)=decide (y s Z<0)/\(e7 m=(dz (y s Z)).length/\
  ∀i,i<e7 m->(dz (zv true (T m))).getD i 0=(dz (y s Z)).getD i 0/\True)/\True)/\True))
 let e9:=λ(m:Ω)(s Z:Int)=>e3 m/\((True/\e4 m)/\br (f m))/\ab 2 ((decide (zv (k s) (f m)<0)=decide (y s Z<0)/\((dz (zv (k s) (f
  m))).length=(dz (y s Z)).length/\∀i,i<(dz (zv (k s) (f m))).length->(dz (zv (k s) (f m))).getD i 0=(dz (y s Z)).getD i 0/\True)/\True)/\True)
 let f0:=λ(m s:Int)(Z:Ω)=>k m=false->ab 2 (e9 Z m s)
 let f1:=λ(m s:Int)(Z:Bool)(y1:Ω)=>(k m=true->True/\(Z=true->e8 y1 m s)/\(Z=false->True/\e9 y1 m s))/\f0 m s y1
 let f2:=λ(m s:Int)(Z:Bool)=>(dB m (B s) (M s) (g s) []/\ab (5:Nat) (t m/\v m/\p s/\w s/\Z=Z/\True/\(x/\x)/\p s/\c3)/\G m/\H m
  /\J/\K/\x/\c4=c4/\True)/\∀(b:Int)(l:Ω),dB m (B s) (M s) b l->True/\(decide (b<d m)=true->((0:Int)<=b/\b<d m)/\ab
  (2:Nat) ((decide (c b<d m)=true->((0:Int)<=c b/\c b<d m)/\(0:Int)<=(32:Int)/\True/\c5 s/\c6/\c7/\d5 l/\ab (2:Nat) (dB m (B
  s) (M s) (c b) (O l m b s)/\d9 m b/\ab (5:Nat) (t m/\v m/\p s/\w s/\Z=Z/\True/\(x/\e l=(O l m b s).length)/\sm (c b)/\c3)/\G m/\H
  m/\J/\K/\P=P/\((e l=(O l m b s).length/\e0/\∀i,i<e l->(if N i l=true then l.getD i r else d8 m b s)=(O l m b s).getD i r/\True)
  /\True)/\True))/\(decide (c b<d m)=false->c5 s/\c6/\c7/\d5 l/\ab (2:Nat) (dB m (B s) (M s) (c b) (Q l m b s)/\d9 m b/\ab (5:Nat) (t
  m/\v m/\p s/\w s/\Z=Z/\True/\(x/\e l=(Q l m b s).length)/\sm (c b)/\c3)/\G m/\H m/\J/\K/\P=P/\((e l=(Q l m b s).length/\e0/\∀(i
  :Nat),i<e l->(if N i l=true then l.getD i r else e1 m b s)=(Q l m b s).getD i r/\True)/\True)/\True))))/\(decide (b<d m)=false->(decide (g
  s<d m)=true->((0:Int)<=g s/\g s<d m)/\c5 s/\True/\(e2 m s=true->True/\(k m=true->True/\e8 l m s)/\f0 m s l)/\(e2 m s=false->f1 m s Z
  l))/\(decide (g s<d m)=false->True/\f1 m s Z l))
 ab (2:Nat) ((aj.ak (SV.bool (decide (z<(0:Int)))::d0 z::C)/\fit (zz z))/\True/\d1/\d1/\ab (3:Nat) ((xB z (D n) (0:Int) false/\ab
  (5:Nat) (t z/\v z/\p n/\w n/\false=false/\sm (0:Int)/\c1)/\c2 z)/\∀(X:Int)(ac:Bool),xB z (D n) X ac->(decide (X<g n)=true
  ->True/\(decide (X<d z)=true->(ac=true->ab (2:Nat) (xB z (D n) (c X) true/\(n-c X).toNat<(n-X).toNat/\ab (5:Nat) (t z/\v z
  /\p n/\w n/\L/\sm (c X)/\c1)/\c2 z))/\(ac=false->((0:Int)<=X/\X<d z)/\ab (2:Nat) (xB z (D n) (c X) (d4 z X)/\(n-c X).toNat
  <(n-X).toNat/\ab (5:Nat) (t z/\v z/\p n/\w n/\sm (d4 z X)/\sm (c X)/\c1)/\c2 z)))/\(decide (X<d z)=false->ab (2:Nat) (f2 z n ac)))
  /\(decide (X<g n)=false->ab (3:Nat) (f2 z n ac)))))=SN z n:=by kernel_rfl
theorem bl_dz{z:Int}(h:0<(dz z).length):bl z=32*((dz z).length-1:Int)+bl ((dz z).getD ((dz z).length-1) 0)/\0<=bl z:=by
 have m:=bH (bI z).1 ((dz z).length-1);have i:=IG h;have j:=iB z;have b:=fv (dz z) ((dz z).length-1);rw[show(dz z).length-1+1=(dz z).length by omega,Jz (J1 _),j]at b;have c:=cm (bI z).1 ((dz z).length-1);generalize (dz z).getD ((dz z).length-1) 0=t at*
 generalize nv ((dz z).take ((dz z).length-1))=o at*
 have d:(z.natAbs:Int)/pw ((dz z).length-1)=t:=by
  rw[b,X3 _ _ (uE _),Qq c.1 c.2];omega
 rw[fE]at d;have e:z.natAbs/2^(32*((dz z).length-1))=t.natAbs:=by
  have:(((z.natAbs/2^(32*((dz z).length-1)):Nat)):Int)=t:=by simpa using d
  omega
 unfold bl;rw[zZ (k:=32*((dz z).length-1)) (by rw[e];omega),e];omega
theorem aag:aH prog WB:=av k381 hm func284 (by kernel_rfl) (by kernel_rfl) sZ.ok (by kernel_rfl) (λ_=>[]) λa b=>by
 have h:TM a:=by
  rw[<-LL];simp only[aA];generalize a=z at*
  try dsimp only at b
  have i:=dm b;simp[-List.getD_eq_getElem?_getD,b];refine⟨λe=>?_,λe=>?_⟩
  . rw[(oz (z:=z)).1 (by rw[e];rfl)];unfold bl wL;rfl
  . have d:0<(dz z).length:=Xa.2 e;have c:=bH (bI z).1 ((dz z).length-1);obtain⟨j,k⟩:=bl_dz d;have m:=My c.1 c.2;rw[aO (n:=((dz z).length:Int)-1) (by omega) (by omega),show(((dz z).length:Int)-1).toNat=(dz z).length-1 by omega,aO (n:=32*(((dz z).length:Int)-1)) (by omega) (by omega),aO (by omega) (by omega)];exact⟨by omega,by unfold pq;exact c,by omega⟩
 exact h
theorem quo_val{a b:Ω}(h:tY a b):br (qL a b)/\br (rL a b)/\nv (qL a b)=nv a/nv b/\nv (rL a b)=nv a%nv b:=by
 obtain⟨r,u,m⟩:=vW h;have w:=jV r;have o:=jV u;have C:=iC r;have D:=iC u;have k:=fV w.1;have E:=fV o.1;have p:=Jm (nv a) (show nv b≠0 by omega);have y:=Jo (nv a) m;have d0:0<=nv a/nv b:=Kb k.1 (by omega);unfold qL rL
 by_cases i:nv a<nv b
 . rw[JB i,JB i];exact⟨ER kP (by simp),ER w.1 (by omega),by rw[Qq k.1 i];simp[nv],by rw[Qr k.1 i]⟩
 rw[JA i,JA i]
 by_cases j:b.length=1
 . rw[JB j,JB j];obtain⟨d,rfl⟩:∃d,b=[d]:=by
    match b,j with
    |[d],_=>exact⟨d,rfl⟩
   have e:nv [d]=d:=by simp[nv]
   rw[e]at p y d0 m i⊢;have z:=(eP.1 o.1).1;simp only[List.getD_cons_zero];unfold vq;have q:nv a/d<=nv a:=Z3 d k.1;refine⟨ER (mo _ _) (by simp;omega),ER (eP.2 ⟨⟨p,by have:=z.2;omega⟩,kP⟩) (by simp),wc d0 (by omega),by simp[nv]⟩
 . rw[JA j,JA j];have c:=SR h (by omega) j;have q:=c.le;have x:=c.n2;have A:=nq o (by intro e;rw[e]at x;simp at x);refine⟨ER (mo _ _) (by simp;omega),ER (mo _ _) (by simp;omega),wc d0 ?_,wc p (by omega)⟩;rw[Kl m];have B:pw (a.length-b.length+1)*pw (b.length-1)<=pw (a.length-b.length+1)*nv b:=Jt A (by have:=bN (a.length-b.length+1);omega);rw[<-gG,show a.length-b.length+1+(b.length-1)=a.length by omega]at B
   omega
theorem Bc{z:Int}{k:Nat}(h:(z.natAbs:Int)<pw k):(dz z).length<=k:=by
 rcases Kv k (dz z).length with c|d
 . have i:=nq (bI z) (by intro e;rw[e]at c;simp at c);have j:=gT (a:=k) (b:=(dz z).length-1) (by omega);rw[iB]at i;omega
 . exact d
theorem vM{z:Int}{k:Nat}(h:(dz z).length<=k):(z.natAbs:Int)<pw k:=by
 have b:=fV (bI z).1;have c:=gT h;rw[iB]at b;omega
theorem rl{x y:Int}(h:fit y)(b:x.natAbs<=y.natAbs):fit x:=by
 have c:=dm h;have d:=vM c;unfold fit;exact Bc (by omega)
theorem k340:aH prog U9:=av aag hm func340 (by kernel_rfl) (by kernel_rfl) DK.ok (by kernel_rfl) (λ_=>[]) λa o=>by
 have h:SD a.1 a.2:=by
  rw[<-PK];simp only[aA];obtain⟨x,y⟩:=a
  try dsimp only at o
  obtain⟨e,i,u⟩:=o;have E:=dm e;have F:=dm i;have p:=iB x;have q:=iB y;have r:tY (dz x) (dz y):=by unfold tY;exact⟨dzS e,dzS i,by omega⟩
  obtain⟨w,z,A,B⟩:=quo_val r;simp[-List.getD_eq_getElem?_getD,e,i,r,w,z];have eq:zv (!decide (x<0)==decide (y<0)) (qL (dz x) (dz y))=x.tdiv y:=by
   unfold zv;rw[A,p,q];have key:∀m n:Nat,((m:Int)/(n:Int))=(m:Int).tdiv n:=λm n=>(Ky (by omega)).symm
   rw[key];rcases Z6 x with b|b<;>rcases Z6 y with c|c
   . have:(!decide (x<0)==decide (y<0))=false:=by simp;omega
     rw[this,<-b,<-c];simp
   . have:(!decide (x<0)==decide (y<0))=true:=by simp;omega
     rw[this,JB rfl,<-b,<-Int.tdiv_neg,<-c]
   . by_cases d:x=0
     . subst d;simp
     have:(!decide (x<0)==decide (y<0))=true:=by simp;omega
     rw[this,JB rfl,<-c,<-Int.neg_tdiv,<-b]
   . by_cases d:x=0
     . subst d;simp
     have:(!decide (x<0)==decide (y<0))=false:=by simp;omega
     have j:(x.natAbs:Int)= -x:=by omega
     have k:(y.natAbs:Int)= -y:=by omega
     rw[this,j,k,Int.neg_tdiv_neg];simp
  have C:zv (decide (x<0)) (rL (dz x) (dz y))=x.tmod y:=by
   unfold zv;rw[B,p,q];have key:∀m n:Nat,((m:Int)%(n:Int))=(m:Int).tmod n:=λm n=>(X9 (by omega)).symm
   rw[key];have D:((x.natAbs:Int)).tmod (y.natAbs:Int)=((x.natAbs:Int)).tmod y:=by
    rcases Z6 y with c|c
    . rw[<-c]
    . have k:(y.natAbs:Int)= -y:=by omega
      rw[k,Int.tmod_neg]
   rw[D];rcases Z6 x with b|b
   . have:decide (x<0)=false:=by simp;omega
     rw[this,<-b];simp
   . by_cases d:x=0
     . subst d;simp
     have:decide (x<0)=true:=by simp;omega
     have j:(x.natAbs:Int)= -x:=by omega
     rw[this,JB rfl,j,Int.neg_tmod];omega
  rw[eq,C];simp
 exact h
theorem XB:aH prog VP:=av k340 hm func362 (by kernel_rfl) (by kernel_rfl) DK.ok (by kernel_rfl) (λa=>a362 a.1 a.2) λa j=>by
 have h:SM a.1 a.2:=by
  rw[<-vc362_eq];simp only[aA];obtain⟨x,y⟩:=a
  try dsimp only at j
  simp[-List.getD_eq_getElem?_getD,j];refine⟨by unfold yA;exact⟨by omega,by omega,rl j.1 (by simp),rl j.2 (by simp),by simp[Int.gcd]⟩,λa b c=>?_⟩;unfold yA at c⊢;obtain⟨r,u,A,m,o⟩:=c;have step:0<(dz b).length->(fit a/\fit b/\ ¬b=0)/\(0<=b/\0<=a.tmod b/\fit b/\fit (a.tmod b)/\Int.gcd b (a.tmod b)=Int.gcd x y)/\max (a.tmod b) 0<b:=by
   intro d;have i:b≠0:=by rintro rfl;simp[gz]at d
   rw[X9 r];have B:=Jm a i;have J:=Jo a (show 0<b by omega);refine⟨⟨A,m,i⟩,⟨u,B,m,rl m (by omega),?_⟩,by omega⟩;rw[<-o];obtain⟨p,rfl⟩:=Q8 r;obtain⟨q,rfl⟩:=Q8 u;rw[<-Int.natCast_emod,Yh,Yh,Nat.gcd_comm p q,Nat.gcd_rec q p,Nat.gcd_comm]
  refine⟨λd=>⟨λK=>⟨λi=>?_,λ_=>step d⟩,λ_=>step d⟩,λe=>?_⟩
  . have C:=vM (z:=a) (k:=2) (by omega);have D:=vM (z:=b) (k:=2) (by omega);have E:pw 2=18446744073709551616:=by rw[fE];rfl
    rw[E]at C D;have F:a.natAbs.gcd b.natAbs=x.gcd y:=o;have G:0<b:=by
     rcases Qe 0 b with h|h
     . exact h
     . have:b=0:=by omega
       subst this;simp[gz]at d
    have H:a.natAbs.gcd b.natAbs<=b.natAbs:=Nat.gcd_le_right _ (by omega);have w:jW (a.natAbs.gcd b.natAbs:Int):=by unfold jW;omega
    rw[F]at w⊢;refine⟨by unfold wz;omega,by unfold wz;omega,⟨by unfold jW;omega,by unfold jW;omega⟩,w,by simp⟩
  . have i:b=0:=oz.1 (by rw[e];rfl);subst i;rw[Z9]at o;have:a=((x.gcd y:Nat):Int):=by omega
    rw[this];simp
 exact h
theorem sb{x:Int}{r:Nat}(b:GD x)(i:r<32):bits .and .u32 x (V (V (2^min r 32)-1))=x%2^r:=by
 have j:=two_pos r;have k:=HS (show r<=31 by omega);rw[show min r 32=r by omega,Aj (n:=(2:Int)^r) (by omega) (by omega),Aj (by omega) (by omega)];obtain⟨x,rfl⟩:=Q8 b.1;have c:=b.2;have d:((2:Int)^r-1)=((2^r-1:Nat):Int):=by
  have:(1:Nat)<=2^r:=Nat.one_le_two_pow;rw[Int.ofNat_sub this];simp
 have e:bits .and .u32 (x:Int) ((2^r-1:Nat):Int)=IntKind.u32.wrap ((BitVec.ofInt 32 (x:Int)&&&BitVec.ofInt 32 ((2^r-1:Nat):Int)).toNat:Int):=rfl;have m:(2:Nat)^r<=2^31:=Xv (by omega) (by omega);have h:(BitVec.ofInt 32 (x:Int)&&&BitVec.ofInt 32 ((2^r-1:Nat):Int)).toNat=x%2^r:=by
  rw[BitVec.toNat_and,Xu,Xu];rw[show(((x:Int)%((2^32:Nat):Int)).toNat)=x by omega,show((((2^r-1:Nat):Int)%((2^32:Nat):Int)).toNat)=2^r-1 by omega];exact Nat.and_two_pow_sub_one_eq_mod x r
 have o:x%2^r<2^r:=Ki _ (Z4 (by omega));rw[d,e,h,V_def,Aj (by omega) (by omega)];simp
theorem Ri(Z:Int)(w r:Nat):Z%2^(32*w+r)=Z%pw w+pw w*(Z/pw w%2^r):=by
 have e:=two_pos r;have h:=bN w;have b:=X2 Z (pw w*2^r);have c:=X2 Z (pw w);have d:=X2 (Z/pw w) (2^r);rw[Int.pow_add,<-fE,b,c,d,Qd (by omega),Qm,Jk];omega
theorem uO{z w i:Int}{b:Bool}(h:xB z w i b)(o:i<w):0<=i/\xB z w (i+1) (b||((dz z).getD i.toNat 0 !=0)):=by
 unfold xB at h⊢;obtain⟨e,p,j⟩:=h;rw[show(i+1).toNat=i.toNat+1 by omega,fv,j];have d:=bH (bI z).1 i.toNat;have q:=cm (bI z).1 i.toNat;have k:=bN i.toNat;refine⟨e,by omega,by omega,?_⟩
 by_cases c:(dz z).getD i.toNat 0=0
 . rw[c];simp
 . have:0<pw i.toNat*(dz z).getD i.toNat 0:=Je k (by omega);have m: ¬nv ((dz z).take i.toNat)+pw i.toNat*(dz z).getD i.toNat 0=0:=by omega
   simp only[m,decide_false,Bool.not_false];simp[-List.getD_eq_getElem?_getD,c]
theorem l8{z i:Int}{w:Nat}{b:Bool}(h:xB z w i b)(j:(w:Int)<=i\/((dz z).length:Int)<=i):b= !decide (nv ((dz z).take w)=0):=by
 unfold xB at h;obtain⟨k,m,c⟩:=h;rw[c];have:nv ((dz z).take i.toNat)=nv ((dz z).take w):=by
  rcases Qe i w with d|e
  . have:((dz z).length:Int)<=i:=by omega
    rw[Jz (by omega),Jz (by omega)]
  . rw[show i.toNat=w by omega]
 rw[this]
theorem F1(z:Int)(w r:Nat):dB z w r w []:=by
 unfold dB;simp[dg]
theorem lD{z:Int}{w r:Nat}{i:Int}{b:Ω}(h:dB z w r i b):b.length=i.toNat-w/\(w:Int)<=i/\(i<=(dz z).length\/i=w):=by
 unfold dB at h;obtain⟨c,d,rfl⟩:=h;exact⟨by simp,c,d⟩
theorem Na(a:Int){b c:Int}(d:0<=b)(e:0<=c):a/b/c=a/c/b:=by
 rw[Qd d,Qd e,J6]
theorem H3{z:Int}{w r:Nat}{i v:Int}{c:Ω}(A:r<32)(h:dB z w r i c)(B:i<(dz z).length)(j:v=((dz z).getD i.toNat 0+4294967296*(dz z).getD (i.toNat+1) 0)/2^r):dB z w r (i+1) (c++[V v]):=by
 unfold dB at h⊢;obtain⟨C,D,m⟩:=h;refine⟨by omega,by omega,?_⟩;rw[m,show(i+1).toNat-w=(i.toNat-w)+1 by omega,re]
 congr 2
 have E:=two_pos r;have o:(4294967296:Int)=2^r*2^(32-r):=by rw[<-Int.pow_add,show r+(32-r)=32 by omega];rfl
 have p:(z.natAbs:Int)/pw w/2^r/pw (i.toNat-w)=(z.natAbs:Int)/pw i.toNat/2^r:=by
  have F:=bN (i.toNat-w);have G:=bN w;rw[Na _ (by omega) (by omega),Qd (y:=pw w) (by omega),<-gG,show w+(i.toNat-w)=i.toNat by omega]
 have d:∀k,(dz z).getD k 0=(z.natAbs:Int)/pw k%4294967296:=by
  intro k
  by_cases q:k<(dz z).length
  . have e:=PD (bI z).1;rw[iB]at e;rw[<-tA (k:=(dz z).length) _ q,e]
  . rw[J0,J7 (by omega)];have u:=fV (bI z).1;have H:=gT (a:=(dz z).length) (b:=k) (by omega);rw[iB]at u;rw[Qq (by omega) (by omega)];rfl
 rw[p,j,d,d,iA,<-cq];generalize (z.natAbs:Int)/pw i.toNat=X;have x:X=(X%4294967296+4294967296*(X/4294967296%4294967296))+2^r*(4294967296*(2^(32-r)*(X/4294967296/4294967296))):=by
  have:(2:Int)^r*(4294967296*(2^(32-r)*(X/4294967296/4294967296)))=4294967296*(4294967296*(X/4294967296/4294967296)):=by
   rw[X7,<-Int.mul_assoc (2^r),<-o]
  rw[this];omega
 conv=>rhs;rw[x]
 rw[X3 _ _ (by omega),Yg]
theorem XP(z:Int)(n:Nat):(z.natAbs:Int)/pw (n/32)/2^(n%32)=(z.natAbs:Int)/2^n:=by
 rw[Qd (by have:=bN (n/32);omega),fE,<-Int.pow_add,show 32*(n/32)+n%32=n by omega]
theorem yH{z:Int}{n:Nat}{i:Int}{c:Ω}(j:fit z)(h:dB z (n/32) (n%32) i c)(p:((dz z).length:Int)<=i):br c/\nv c=(z.natAbs:Int)/2^n:=by
 have q:=dm j;have k:=fV (bI z).1;rw[iB]at k;obtain⟨r,u,w⟩:=lD h;unfold dB at h;obtain⟨x,y,d⟩:=h;have A:=two_pos (n%32);have e:0<=(z.natAbs:Int)/pw (n/32):=Kb (by omega) (by have:=bN (n/32);omega);have m:(z.natAbs:Int)/pw (n/32)<pw (i.toNat-n/32):=by
  rw[Kl (bN _),<-gG];have:=gT (a:=(dz z).length) (b:=i.toNat-n/32+n/32) (by omega);omega
 have o:=Z3 (2^(n%32)) e;refine⟨ER (by rw[d];exact mo _ _) (by omega),?_⟩;rw[d,wc (Kb e (by omega)) (by omega),XP]
theorem Ex{z:Int}{n:Nat}:(0<=z->z/2^n=(z.natAbs:Int)/2^n)/\(z<0->z/2^n=if(z.natAbs:Int)%2^n=0 then-((z.natAbs:Int)/2^n)else-((z.natAbs:Int)/2^n+1)):=by
 have d:=two_pos n;refine⟨λh=>by rw[Int.natAbs_of_nonneg h],λh=>?_⟩;have e:z= -(z.natAbs:Int):=by omega
 have b:=Qs (z.natAbs:Int) (2^n);have i:=Jm (z.natAbs:Int) (show(2:Int)^n≠0 by omega);have j:=Jo (z.natAbs:Int) d;generalize (z.natAbs:Int)=Z at*
 subst e;split
 . rename_i c;rw[c,X6]at b;have: -Z=0+2^n*(-(Z/2^n)):=by rw[JR,b];omega
   conv=>lhs;rw[this]
   rw[X3 _ _ (by omega)];simp
 . rename_i c;have: -Z=(2^n-Z%2^n)+2^n*(-(Z/2^n+1)):=by rw[JR,Kg,Ke];omega
   conv=>lhs;rw[this]
   rw[X3 _ _ (by omega),Qq (by omega) (by omega)];omega
theorem Gr{z:Int}{n:Nat}:(z.natAbs:Int)%2^n=0↔(nv ((dz z).take (n/32))=0/\(n/32<(dz z).length->(dz z).getD (n/32) 0%2^(n%32)=0)):=by
 have c:=(bI z).1;have w:=two_pos (n%32);have e:=Ri (z.natAbs:Int) (n/32) (n%32);rw[show 32*(n/32)+n%32=n by omega]at e;have m:=iB z;have p:(z.natAbs:Int)%pw (n/32)=nv ((dz z).take (n/32)):=by
  rw[<-m];have:=T5 (n/32) (nv (dz z))
  by_cases d:n/32<=(dz z).length
  . rw[<-this,<-Il (k:=(dz z).length) _ d,PD c]
  . rw[Jz (by omega)];have j:=fV c;have:=gT (a:=(dz z).length) (b:=n/32) (by omega);exact Qr j.1 (by omega)
 have q:(z.natAbs:Int)/pw (n/32)%2^(n%32)=(dz z).getD (n/32) 0%2^(n%32):=by
  have:(dz z).getD (n/32) 0=(z.natAbs:Int)/pw (n/32)%4294967296:=by
   by_cases d:n/32<(dz z).length
   . have e:=PD c;rw[m]at e;rw[<-tA (k:=(dz z).length) _ d,e]
   . rw[J0,J7 (by omega)];have j:=fV c;have o:=gT (a:=(dz z).length) (b:=n/32) (by omega);rw[m]at j;rw[Qq (by omega) (by omega)];rfl
  rw[this,Int.emod_emod_of_dvd];exact⟨2^(32-n%32),by rw[<-Int.pow_add,show n%32+(32-n%32)=32 by omega];rfl⟩
 rw[e,p,q];have j:=cm c (n/32);have r:=Jm ((dz z).getD (n/32) 0) (show(2:Int)^(n%32)≠0 by omega);have o:=bN (n/32);have x:0<=pw (n/32)*((dz z).getD (n/32) 0%2^(n%32)):=Ja (by omega) r;constructor
 . intro h;refine⟨by omega,λ_=>?_⟩;rcases Qe 0 ((dz z).getD (n/32) 0%2^(n%32))with i|i
   . have:=Je o i;omega
   . omega
 . rintro⟨i,u⟩
   by_cases d:n/32<(dz z).length
   . rw[i,u d];simp
   . rw[i,J0,J7 (by omega)];simp
theorem IU{z:Int}{n:Nat}{b:Ω}(d:z<0)(e:br b)(m:b.length<=1000000)(j:nv b=(z.natAbs:Int)/2^n)(h: ¬(z.natAbs:Int)%2^n=0):
 br (ah (aF .u32) (min (tl b) b.length) λi=>[SV.int .u32 ((List.take (tl b) b).getD i 0)])/\br [1]/\br (cf (ah (aF .u32) (min (tl b) b.length) λi=>[SV.int .u32 ((List.take (tl b) b).getD i 0)]) [1])/\zv true (cf (ah (aF .u32) (min (tl b) b.length) λi=>[SV.int .u32 ((List.take (tl b) b).getD i 0)]) [1])=z/2^n:=by
 have c:=qv e;have k:ah (aF .u32) (min (tl b) b.length) (λi=>[SV.int .u32 ((List.take (tl b) b).getD i 0)])=b.take (tl b):=kE (by simp);have d1:cO [1]:=eP.2 ⟨⟨by omega,by omega⟩,kP⟩;rw[k];refine⟨ER (mN c _) (by simp;omega),ER d1 (by simp),ER (OF _ _) (by rw[zD];simp;omega),?_⟩;unfold zv;rw[Mf (mN c _) d1,xH,j,(Ex).2 d,JA h];simp[nv]
theorem Ni{z:Int}{n:Nat}{b:Ω}(d:nv b=(z.natAbs:Int)/2^n)(h:z<0->(z.natAbs:Int)%2^n=0):zv (decide (z<0)) b=z/2^n:=by
 unfold zv;rw[d]
 by_cases c:z<0
 . rw[(Ex).2 c,JB (h c),JB (by simpa using c)]
 . rw[JA (by simpa using c)];exact((Ex).1 (by omega)).symm
theorem shrF{z n:Int}(D:fit z)(M:0<=n/\n<=32000000)(k:nv ((dz z).take (n.toNat/32))=0):
 dB z (n.toNat/32) (n.toNat%32) ((n.toNat/32:Nat):Int) []/\∀(b:Int)(l:Ω),dB z (n.toNat/32) (n.toNat%32) b l->(b
  < ↑(dz z).length->(0<=b/\b< ↑(dz z).length)/\(W (b+1)< ↑(dz z).length->(0<=W (b+1)/\W (b+1)< ↑(dz z).length)/\0<=((n.toNat
  %32:Nat):Int)/\(l.length<=140737488355327/\(l.length+1)*4<=140737488355328)/\dB z (n.toNat/32) (n.toNat%32) (W (b+1)) (l++[V
  (bits BinOp.or IntKind.u64 (U ((dz z).getD b.toNat 0)) (U (U ((dz z).getD (W (b+1)).toNat 0)*4294967296))/2^min (n.toNat%32) 64)])/\max
  (↑(dz z).length-W (b+1)) 0< ↑(dz z).length-b/\∀i,i<l.length+1->(if i<l.length then l.getD i 0 else V (bits BinOp.or IntKind.u64
  (U ((dz z).getD b.toNat 0)) (U (U ((dz z).getD (W (b+1)).toNat 0)*4294967296))/2^min (n.toNat%32) 64))=(l++[V (bits BinOp.or IntKind.u64
  (U ((dz z).getD b.toNat 0)) (U (U ((dz z).getD (W (b+1)).toNat 0)*4294967296))/2^min (n.toNat%32) 64)]).getD i 0)/\(↑(dz z).length<=W (b
  +1)->0<=((n.toNat%32:Nat):Int)/\(l.length<=140737488355327/\(l.length+1)*4<=140737488355328)/\dB z (n.toNat/32) (n.toNat%32)
  (W (b+1)) (l++[V (U ((dz z).getD b.toNat 0)/2^min (n.toNat%32) 64)])/\max (↑(dz z).length-W (b+1)) 0< ↑(dz z).length-b/\∀(i
  :Nat),i<l.length+1->(if i<l.length then l.getD i 0 else V (U ((dz z).getD b.toNat 0)/2^min (n.toNat%32) 64))=(l++[V (U ((dz z).getD
  b.toNat 0)/2^min (n.toNat%32) 64)]).getD i 0))/\(↑(dz z).length<=b->(((n.toNat/32:Nat):Int)< ↑(dz z).length->(0<=((n.toNat/32:
  Nat):Int)/\((n.toNat/32:Nat):Int)< ↑(dz z).length)/\0<=((n.toNat%32:Nat):Int)/\(¬bits BinOp.and IntKind.u32 ((dz z).getD (n.toNat/
  32) 0) (V (V (2^min (n.toNat%32) 32)-1))=0->(z<0->br l/\(br (ah (aF IntKind.u32) (min (tl l) l.length) λi=>[SV.int .u32
  ((List.take (tl l) l).getD i 0)])/\br [1])/\br (cf (ah (aF IntKind.u32) (min (tl l) l.length) λi=>[SV.int .u32 ((List.take (tl
  l) l).getD i 0)]) [1])/\(zv true (cf (ah (aF IntKind.u32) (min (tl l) l.length) λi=>[SV.int .u32 ((List.take (tl l) l).getD i 0)]) [1])
  <0↔z/2^n.toNat<0)/\(dz (zv true (cf (ah (aF IntKind.u32) (min (tl l) l.length) λi=>[SV.int .u32 ((List.take (tl l) l).getD
  i 0)]) [1]))).length=(dz (z/2^n.toNat)).length/\∀i,i<(dz (zv true (cf (ah (aF IntKind.u32) (min (tl l) l.length) λi=>[SV.int
  IntKind.u32 ((List.take (tl l) l).getD i 0)]) [1]))).length->(dz (zv true (cf (ah (aF IntKind.u32) (min (tl l) l.length) λi=>[SV.int .u32
  ((List.take (tl l) l).getD i 0)]) [1]))).getD i 0=(dz (z/2^n.toNat)).getD i 0)/\(0<=z->br l/\(zv (decide (z<0)) l<0↔z/2^n.toNat<
  0)/\(dz (zv (decide (z<0)) l)).length=(dz (z/2^n.toNat)).length/\∀i,i<(dz (zv (decide (z<0)) l)).length->(dz (zv (decide (z<
  0)) l)).getD i 0=(dz (z/2^n.toNat)).getD i 0))/\(bits BinOp.and IntKind.u32 ((dz z).getD (n.toNat/32) 0) (V (V (2^min (n.toNat%32) 32)-1))
  =0->(z<0->br l/\(zv (decide (z<0)) l<0↔z/2^n.toNat<0)/\(dz (zv (decide (z<0)) l)).length=(dz (z/2^n.toNat)).length/\∀(i
  :Nat),i<(dz (zv (decide (z<0)) l)).length->(dz (zv (decide (z<0)) l)).getD i 0=(dz (z/2^n.toNat)).getD i 0)/\(0<=z->br l/\(zv (decide
  (z<0)) l<0↔z/2^n.toNat<0)/\(dz (zv (decide (z<0)) l)).length=(dz (z/2^n.toNat)).length/\∀i,i<(dz (zv (decide (z<0))
  l)).length->(dz (zv (decide (z<0)) l)).getD i 0=(dz (z/2^n.toNat)).getD i 0)))/\(↑(dz z).length<=((n.toNat/32:Nat):Int)->(z<0->br
  l/\(zv (decide (z<0)) l<0↔z/2^n.toNat<0)/\(dz (zv (decide (z<0)) l)).length=(dz (z/2^n.toNat)).length/\∀i,i<(dz (zv
  (decide (z<0)) l)).length->(dz (zv (decide (z<0)) l)).getD i 0=(dz (z/2^n.toNat)).getD i 0)/\(0<=z->br l/\(zv (decide (z<0)) l<0↔
  z/2^n.toNat<0)/\(dz (zv (decide (z<0)) l)).length=(dz (z/2^n.toNat)).length/\∀i,i<(dz (zv (decide (z<0)) l)).length->(dz
  (zv (decide (z<0)) l)).getD i 0=(dz (z/2^n.toNat)).getD i 0))):=by
 have N:=dm D;have q:n.toNat%32<32:=by omega
 have w:=(bI z).1;refine⟨F1 z _ _,λi out h=>⟨λp=>?_,λp=>?_⟩⟩
 . obtain⟨F,G,H⟩:=lD h;have d0:=bH w i.toNat;have d1:=bH w (i.toNat+1);rw[aO (n:=i+1) (by omega) (by omega),show(i+1).toNat=i.toNat+1 by omega,ct (n:=(dz z).getD i.toNat 0) (by omega) (by omega),ct (n:=(dz z).getD (i.toNat+1) 0) (by omega) (by omega),ct (n:=(dz z).getD (i.toNat+1) 0*4294967296) (by omega) (by omega),show min (n.toNat%32) 64=n.toNat%32 by omega];have E:=yZ (u:=(dz z).getD i.toNat 0) (y:=(dz z).getD (i.toNat+1) 0) (r:=32) d0.1 (by have:=d0.2;omega) d1.1 (by have:=d0.2;have:=d1.2;omega)
   rw[show(2:Int)^32=4294967296 from rfl]at E;rw[J6 ((dz z).getD (i.toNat+1) 0),E];refine⟨by omega,λx=>?_,λx=>?_⟩
   . have A:=H3 q h p rfl
     and_intros<;>first|omega|assumption|exact λj J=>(xA (by omega)).symm
   . have K:(dz z).getD (i.toNat+1) 0=0:=by rw[J0,J7 (by omega)];rfl
     have A:=H3 (v:=(dz z).getD i.toNat 0/2^(n.toNat%32)) q h p (by rw[K];simp)
     and_intros<;>first|omega|assumption|exact λj J=>(xA (by omega)).symm
 . obtain⟨f1,f2⟩:=yH D h p;obtain⟨F,G,H⟩:=lD h;have B:out.length<=1000000:=by omega
   have m:=Gr (z:=z) (n:=n.toNat);have c:=λ(e:z<0)(d: ¬(z.natAbs:Int)%2^n.toNat=0)=>IU e f1 B f2 d
   have o:=λ(d:z<0->(z.natAbs:Int)%2^n.toNat=0)=>Ni f2 d
   have L:z<0-> ¬(z.natAbs:Int)%2^n.toNat=0->_:=λe d=>(⟨f1,⟨(c e d).1,(c e d).2.1⟩,(c e d).2.2.1,by rw[(c e d).2.2.2],by rw[(c e d).2.2.2],λi p=>by rw[(c e d).2.2.2]⟩:br out/\(br (ah (aF IntKind.u32) (min (tl out) out.length) λi=>[SV.int .u32 ((List.take (tl out) out).getD i 0)])/\br [1])/\br (cf (ah (aF IntKind.u32) (min (tl out) out.length) λi=>[SV.int .u32 ((List.take (tl out) out).getD i 0)]) [1])/\(zv true (cf (ah (aF IntKind.u32) (min (tl out) out.length) λi=>[SV.int .u32 ((List.take (tl out) out).getD i 0)]) [1])<0↔z/2^n.toNat<0)/\(dz (zv true (cf (ah (aF IntKind.u32) (min (tl out) out.length) λi=>[SV.int .u32 ((List.take (tl out) out).getD i 0)]) [1]))).length=(dz (z/2^n.toNat)).length/\∀i,i<(dz (zv true (cf (ah (aF IntKind.u32) (min (tl out) out.length) λi=>[SV.int .u32 ((List.take (tl out) out).getD i 0)]) [1]))).length->(dz (zv true (cf (ah (aF IntKind.u32) (min (tl out) out.length) λi=>[SV.int .u32 ((List.take (tl out) out).getD i 0)]) [1]))).getD i 0=(dz (z/2^n.toNat)).getD i 0)
   have fn:(z<0->(z.natAbs:Int)%2^n.toNat=0)->_:=λd=>(⟨f1,by rw[o d],by rw[o d],λi p=>by rw[o d]⟩:br out/\(zv (decide (z<0)) out<0↔z/2^n.toNat<0)/\(dz (zv (decide (z<0)) out)).length=(dz (z/2^n.toNat)).length/\∀i,i<(dz (zv (decide (z<0)) out)).length->(dz (zv (decide (z<0)) out)).getD i 0=(dz (z/2^n.toNat)).getD i 0)
   rw[sb (bH w (n.toNat/32)) q];refine⟨λx=>⟨by omega,by omega,λC=>⟨λe=>L e (λd=>C ((m.1 d).2 (by omega))),λe=>fn (λh=>by omega)⟩,λC=>⟨λe=>fn (λ_=>m.2 ⟨k,λ_=>C⟩),λe=>fn (λh=>by omega)⟩⟩,λx=>⟨λe=>fn (λ_=>m.2 ⟨k,λh=>by omega⟩),λe=>fn (λh=>by omega)⟩⟩
theorem ZH{z n:Int}(D:fit z)(M:0<=n/\n<=32000000)(k: ¬nv ((dz z).take (n.toNat/32))=0):
 dB z (n.toNat/32) (n.toNat%32) ((n.toNat/32:Nat):Int) []/\∀(b:Int)(l:Ω),dB z (n.toNat/32) (n.toNat%32) b l->(b
  < ↑(dz z).length->(0<=b/\b< ↑(dz z).length)/\(W (b+1)< ↑(dz z).length->(0<=W (b+1)/\W (b+1)< ↑(dz z).length)/\0<=((n.toNat
  %32:Nat):Int)/\(l.length<=140737488355327/\(l.length+1)*4<=140737488355328)/\dB z (n.toNat/32) (n.toNat%32) (W (b+1)) (l++[V
  (bits BinOp.or IntKind.u64 (U ((dz z).getD b.toNat 0)) (U (U ((dz z).getD (W (b+1)).toNat 0)*4294967296))/2^min (n.toNat%32) 64)])/\max
  (↑(dz z).length-W (b+1)) 0< ↑(dz z).length-b/\∀i,i<l.length+1->(if i<l.length then l.getD i 0 else V (bits BinOp.or IntKind.u64
  (U ((dz z).getD b.toNat 0)) (U (U ((dz z).getD (W (b+1)).toNat 0)*4294967296))/2^min (n.toNat%32) 64))=(l++[V (bits BinOp.or IntKind.u64
  (U ((dz z).getD b.toNat 0)) (U (U ((dz z).getD (W (b+1)).toNat 0)*4294967296))/2^min (n.toNat%32) 64)]).getD i 0)/\(↑(dz z).length<=W (b
  +1)->0<=((n.toNat%32:Nat):Int)/\(l.length<=140737488355327/\(l.length+1)*4<=140737488355328)/\dB z (n.toNat/32) (n.toNat%32)
  (W (b+1)) (l++[V (U ((dz z).getD b.toNat 0)/2^min (n.toNat%32) 64)])/\max (↑(dz z).length-W (b+1)) 0< ↑(dz z).length-b/\∀(i
  :Nat),i<l.length+1->(if i<l.length then l.getD i 0 else V (U ((dz z).getD b.toNat 0)/2^min (n.toNat%32) 64))=(l++[V (U ((dz z).getD
  b.toNat 0)/2^min (n.toNat%32) 64)]).getD i 0))/\(↑(dz z).length<=b->(((n.toNat/32:Nat):Int)< ↑(dz z).length->(0<=((n.toNat/32:
  Nat):Int)/\((n.toNat/32:Nat):Int)< ↑(dz z).length)/\0<=((n.toNat%32:Nat):Int)/\(¬bits BinOp.and IntKind.u32 ((dz z).getD (n.toNat/
  32) 0) (V (V (2^min (n.toNat%32) 32)-1))=0->(z<0->br l/\(br (ah (aF IntKind.u32) (min (tl l) l.length) λi=>[SV.int .u32
  ((List.take (tl l) l).getD i 0)])/\br [1])/\br (cf (ah (aF IntKind.u32) (min (tl l) l.length) λi=>[SV.int .u32 ((List.take (tl
  l) l).getD i 0)]) [1])/\(zv true (cf (ah (aF IntKind.u32) (min (tl l) l.length) λi=>[SV.int .u32 ((List.take (tl l) l).getD i 0)]) [1])
  <0↔z/2^n.toNat<0)/\(dz (zv true (cf (ah (aF IntKind.u32) (min (tl l) l.length) λi=>[SV.int .u32 ((List.take (tl l) l).getD
  i 0)]) [1]))).length=(dz (z/2^n.toNat)).length/\∀i,i<(dz (zv true (cf (ah (aF IntKind.u32) (min (tl l) l.length) λi=>[SV.int
  IntKind.u32 ((List.take (tl l) l).getD i 0)]) [1]))).length->(dz (zv true (cf (ah (aF IntKind.u32) (min (tl l) l.length) λi=>[SV.int .u32
  ((List.take (tl l) l).getD i 0)]) [1]))).getD i 0=(dz (z/2^n.toNat)).getD i 0)/\(0<=z->br l/\(zv (decide (z<0)) l<0↔z/2^n.toNat<
  0)/\(dz (zv (decide (z<0)) l)).length=(dz (z/2^n.toNat)).length/\∀i,i<(dz (zv (decide (z<0)) l)).length->(dz (zv (decide (z<
  0)) l)).getD i 0=(dz (z/2^n.toNat)).getD i 0))/\(bits BinOp.and IntKind.u32 ((dz z).getD (n.toNat/32) 0) (V (V (2^min (n.toNat%32) 32)-1))
  =0->(z<0->br l/\(br (ah (aF IntKind.u32) (min (tl l) l.length) λi=>[SV.int .u32 ((List.take (tl l) l).getD i 0)])/\br [1])
  /\br (cf (ah (aF IntKind.u32) (min (tl l) l.length) λi=>[SV.int .u32 ((List.take (tl l) l).getD i 0)]) [1])/\(zv true (cf (ah
  (aF IntKind.u32) (min (tl l) l.length) λi=>[SV.int .u32 ((List.take (tl l) l).getD i 0)]) [1])<0↔z/2^n.toNat<0)/\(dz (zv true
  (cf (ah (aF IntKind.u32) (min (tl l) l.length) λi=>[SV.int .u32 ((List.take (tl l) l).getD i 0)]) [1]))).length=(dz (z/2^n.toNat)).length
  /\∀i,i<(dz (zv true (cf (ah (aF IntKind.u32) (min (tl l) l.length) λi=>[SV.int .u32 ((List.take (tl l) l).getD i 0)]) [1]))).length
  ->(dz (zv true (cf (ah (aF IntKind.u32) (min (tl l) l.length) λi=>[SV.int .u32 ((List.take (tl l) l).getD i 0)]) [1]))).getD i 0=(dz
  (z/2^n.toNat)).getD i 0)/\(0<=z->br l/\(zv (decide (z<0)) l<0↔z/2^n.toNat<0)/\(dz (zv (decide (z<0)) l)).length=(dz (z/2^
  n.toNat)).length/\∀i,i<(dz (zv (decide (z<0)) l)).length->(dz (zv (decide (z<0)) l)).getD i 0=(dz (z/2^n.toNat)).getD i 0)))/\
  (↑(dz z).length<=((n.toNat/32:Nat):Int)->(z<0->br l/\(br (ah (aF IntKind.u32) (min (tl l) l.length) λi=>[SV.int .u32 ((List.take
  (tl l) l).getD i 0)])/\br [1])/\br (cf (ah (aF IntKind.u32) (min (tl l) l.length) λi=>[SV.int .u32 ((List.take (tl l) l).getD i
  0)]) [1])/\(zv true (cf (ah (aF IntKind.u32) (min (tl l) l.length) λi=>[SV.int .u32 ((List.take (tl l) l).getD i 0)]) [1])<0↔z/
  2^n.toNat<0)/\(dz (zv true (cf (ah (aF IntKind.u32) (min (tl l) l.length) λi=>[SV.int .u32 ((List.take (tl l) l).getD i 0)]) [1]))).length
  =(dz (z/2^n.toNat)).length/\∀i,i<(dz (zv true (cf (ah (aF IntKind.u32) (min (tl l) l.length) λi=>[SV.int .u32 ((List.take
  (tl l) l).getD i 0)]) [1]))).length->(dz (zv true (cf (ah (aF IntKind.u32) (min (tl l) l.length) λi=>[SV.int .u32 ((List.take (tl l)
  l).getD i 0)]) [1]))).getD i 0=(dz (z/2^n.toNat)).getD i 0)/\(0<=z->br l/\(zv (decide (z<0)) l<0↔z/2^n.toNat<0)/\(dz (zv (decide
  (z<0)) l)).length=(dz (z/2^n.toNat)).length/\∀i,i<(dz (zv (decide (z<0)) l)).length->(dz (zv (decide (z<0)) l)).getD i 0=(dz
  (z/2^n.toNat)).getD i 0))):=by
 have N:=dm D;have q:n.toNat%32<32:=by omega
 have w:=(bI z).1;refine⟨F1 z _ _,λi out h=>⟨λp=>?_,λp=>?_⟩⟩
 . obtain⟨F,G,H⟩:=lD h;have d0:=bH w i.toNat;have d1:=bH w (i.toNat+1);rw[aO (n:=i+1) (by omega) (by omega),show(i+1).toNat=i.toNat+1 by omega,ct (n:=(dz z).getD i.toNat 0) (by omega) (by omega),ct (n:=(dz z).getD (i.toNat+1) 0) (by omega) (by omega),ct (n:=(dz z).getD (i.toNat+1) 0*4294967296) (by omega) (by omega),show min (n.toNat%32) 64=n.toNat%32 by omega];have E:=yZ (u:=(dz z).getD i.toNat 0) (y:=(dz z).getD (i.toNat+1) 0) (r:=32) d0.1 (by have:=d0.2;omega) d1.1 (by have:=d0.2;have:=d1.2;omega)
   rw[show(2:Int)^32=4294967296 from rfl]at E;rw[J6 ((dz z).getD (i.toNat+1) 0),E];refine⟨by omega,λx=>?_,λx=>?_⟩
   . have A:=H3 q h p rfl
     and_intros<;>first|omega|assumption|exact λj J=>(xA (by omega)).symm
   . have K:(dz z).getD (i.toNat+1) 0=0:=by rw[J0,J7 (by omega)];rfl
     have A:=H3 (v:=(dz z).getD i.toNat 0/2^(n.toNat%32)) q h p (by rw[K];simp)
     and_intros<;>first|omega|assumption|exact λj J=>(xA (by omega)).symm
 . obtain⟨f1,f2⟩:=yH D h p;obtain⟨F,G,H⟩:=lD h;have B:out.length<=1000000:=by omega
   have m:=Gr (z:=z) (n:=n.toNat);have c:=λ(e:z<0)(d: ¬(z.natAbs:Int)%2^n.toNat=0)=>IU e f1 B f2 d
   have o:=λ(d:z<0->(z.natAbs:Int)%2^n.toNat=0)=>Ni f2 d
   have C:z<0-> ¬(z.natAbs:Int)%2^n.toNat=0->_:=λe d=>(⟨f1,⟨(c e d).1,(c e d).2.1⟩,(c e d).2.2.1,by rw[(c e d).2.2.2],by rw[(c e d).2.2.2],λi p=>by rw[(c e d).2.2.2]⟩:br out/\(br (ah (aF IntKind.u32) (min (tl out) out.length) λi=>[SV.int .u32 ((List.take (tl out) out).getD i 0)])/\br [1])/\br (cf (ah (aF IntKind.u32) (min (tl out) out.length) λi=>[SV.int .u32 ((List.take (tl out) out).getD i 0)]) [1])/\(zv true (cf (ah (aF IntKind.u32) (min (tl out) out.length) λi=>[SV.int .u32 ((List.take (tl out) out).getD i 0)]) [1])<0↔z/2^n.toNat<0)/\(dz (zv true (cf (ah (aF IntKind.u32) (min (tl out) out.length) λi=>[SV.int .u32 ((List.take (tl out) out).getD i 0)]) [1]))).length=(dz (z/2^n.toNat)).length/\∀i,i<(dz (zv true (cf (ah (aF IntKind.u32) (min (tl out) out.length) λi=>[SV.int .u32 ((List.take (tl out) out).getD i 0)]) [1]))).length->(dz (zv true (cf (ah (aF IntKind.u32) (min (tl out) out.length) λi=>[SV.int .u32 ((List.take (tl out) out).getD i 0)]) [1]))).getD i 0=(dz (z/2^n.toNat)).getD i 0)
   have fn:(z<0->(z.natAbs:Int)%2^n.toNat=0)->_:=λd=>(⟨f1,by rw[o d],by rw[o d],λi p=>by rw[o d]⟩:br out/\(zv (decide (z<0)) out<0↔z/2^n.toNat<0)/\(dz (zv (decide (z<0)) out)).length=(dz (z/2^n.toNat)).length/\∀i,i<(dz (zv (decide (z<0)) out)).length->(dz (zv (decide (z<0)) out)).getD i 0=(dz (z/2^n.toNat)).getD i 0)
   rw[sb (bH w (n.toNat/32)) q];refine⟨λx=>⟨by omega,by omega,λL=>⟨λe=>C e (λd=>k (m.1 d).1),λe=>fn (λh=>by omega)⟩,λL=>⟨λe=>C e (λd=>k (m.1 d).1),λe=>fn (λh=>by omega)⟩⟩,λx=>⟨λe=>C e (λd=>k (m.1 d).1),λe=>fn (λh=>by omega)⟩⟩
theorem aal:aH prog Wn:=av XB hm func394 (by kernel_rfl) (by kernel_rfl) T0.ok (by kernel_rfl) (λa=>aad a.1 a.2) λa b=>by
 have h:SN a.1 a.2:=by
  rw[<-Nc];simp only[aA];obtain⟨z,n⟩:=a
  try dsimp only at b
  simp[-List.getD_eq_getElem?_getD,b];have e:=Ch b.2;have k:n.tdiv 32=(n.toNat/32:Nat):=by rw[Ky (by omega)];omega
  have m:n.tmod 32=(n.toNat%32:Nat):=by rw[X9 (by omega)];omega
  rw[k,m,aO (n:=((n.toNat/32:Nat):Int)) (by omega) (by omega),ct (n:=((n.toNat%32:Nat):Int)) (by omega) (by omega),show max n 0/32=((n.toNat/32:Nat):Int) by omega,K7,K7];have o:xB z ((n.toNat/32:Nat):Int) 0 false:=by unfold xB;simp[nv]
  refine⟨o,λi=>⟨λh=>⟨λc=>⟨λd=>?_,λd=>?_⟩,λc=>?_⟩,λh=>⟨λc=>⟨λd=>?_,λd=>?_⟩,λc=>?_⟩⟩⟩
  . obtain⟨p,j⟩:=uO h c;have q:=dm b.1;rw[aO (n:=i+1) (by omega) (by omega)];exact⟨by omega,by simpa using j,by omega⟩
  . exact shrF b.1 e (by have:=l8 h (.inr d);simpa using this)
  . exact shrF b.1 e (by have:=l8 h (.inl c);simpa using this)
  . obtain⟨p,j⟩:=uO h c;have q:=dm b.1;rw[aO (n:=i+1) (by omega) (by omega)];exact⟨by simpa using j,by omega⟩
  . exact ZH b.1 e (by have:=l8 h (.inr d);simpa using this)
  . exact ZH b.1 e (by have:=l8 h (.inl c);simpa using this)
 exact h
end Go.Proofs.Big
