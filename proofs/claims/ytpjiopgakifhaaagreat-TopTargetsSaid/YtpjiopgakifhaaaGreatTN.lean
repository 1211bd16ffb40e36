import Derived.Test.YtpjiopgakifhaaaGreatTM
import Derived.Test.YtpjiopgakifhaaaGreatTJ
set_option linter.unusedSectionVars false
set_option linter.unusedSimpArgs false
set_option linter.unusedVariables false
set_option maxRecDepth 100000
namespace Go.Proofs.Big
open Go Go.Sx Go.Proofs
variable [bW]
attribute [local irreducible] lm nv tl dg dz
theorem O4 (l:List Int):rr l=l:=by unfold rr;exact Te
theorem sf_eq {b:List Int} (h:0<b.length) (h2:b.length<=10000000):sf b=rX b:=by
 unfold sf rX;rw [aG (by omega) (by omega),show((b.length:Int)-1).toNat=b.length-1 by omega]
theorem ZU {a b:List Int} (c:Div a b) {n G:Int} {l l_1:List Int} (hinv:inv1 a b n l l_1) (hn:0<=n) (hg:ak a b n G) (es:yX b=dg (b.length+1) (v0 b)):
 (kh a b n (G) 0 0 0 (ah i32 (a.length+1) fun j=>[SV.int IntKind.u32 (l.getD j 0)])/\ ∀(i:Nat),i<a.length+1->l.getD i 0=(ah i32 (a.length
  +1) fun j=>[SV.int IntKind.u32 (l.getD j 0)]).getD i 0)/\ ∀(n_3 n_4 n_5:Int) (l_2:List Int),kh a b n (G) n_3 n_4 n_5 l_2->(n_3< ↑b.length
  ->(0<=n_3/\n_3< ↑b.length)/\n_3.toNat<b.length+1/\(0<=W (n_3+n)/\W (n_3+n)<((a.length+1:Nat):Int))/\W (n_3+n)< ↑a.length+1/\(0<=W (n_3
  +n)/\W (n_3+n)<((a.length+1:Nat):Int))/\W (n_3+n)< ↑a.length+1/\kh a b n (G) (W (n_3+1)) (U (U (G*U ((yX b).getD n_3.toNat 0))+n_4)/4294967296)
  (U (U (U (l_2.getD (W (n_3+n)).toNat 0)-U (V (U (U (G*U ((yX b).getD n_3.toNat 0))+n_4))))-n_5)/9223372036854775808) (ah i32 (a.length+
  1) fun i'=>af (decide (i'=(W (n_3+n)).toNat)) [SV.int IntKind.u32 (V (U (U (U (l_2.getD (W (n_3+n)).toNat 0)-U (V (U (U (G*U ((yX b).getD
  n_3.toNat 0))+n_4))))-n_5)))] [SV.int IntKind.u32 (l_2.getD i' 0)])/\max (↑b.length-W (n_3+1)) 0< ↑b.length-n_3/\ ∀(i:Nat),i<a.length
  +1->(if i=(W (n_3+n)).toNat then V (U (U (U (l_2.getD (W (n_3+n)).toNat 0)-U (V (U (U (G*U ((yX b).getD n_3.toNat 0))+n_4))))-n_5))else
  l_2.getD i 0)=(ah i32 (a.length+1) fun i'=>af (decide (i'=(W (n_3+n)).toNat)) [SV.int IntKind.u32 (V (U (U (U (l_2.getD (W (n_3+n)).toNat
  0)-U (V (U (U (G*U ((yX b).getD n_3.toNat 0))+n_4))))-n_5)))] [SV.int IntKind.u32 (l_2.getD i' 0)]).getD i 0)/\(↑b.length<=n_3->(0<=W (n+
  ↑b.length)/\W (n+ ↑b.length)<((a.length+1:Nat):Int))/\W (n+ ↑b.length)< ↑a.length+1/\(0<=W (n+ ↑b.length)/\W (n+ ↑b.length)<((a.length+1:Nat):Int))/\
  W (n+ ↑b.length)< ↑a.length+1/\(¬U (U (U (l_2.getD (W (n+ ↑b.length)).toNat 0)-n_4)-n_5)/9223372036854775808=0->(mP a b n 0 0 (ah i32
  (a.length+1) fun i'=>af (decide (i'=(W (n+ ↑b.length)).toNat)) [SV.int IntKind.u32 (V (U (U (U (l_2.getD (W (n+ ↑b.length)).toNat 0)-n_4)
  -n_5)))] [SV.int IntKind.u32 (l_2.getD i' 0)])/\ ∀(i:Nat),i<a.length+1->(if i=(W (n+ ↑b.length)).toNat then V (U (U (U (l_2.getD (W (n+ ↑b.length)).toNat
  0)-n_4)-n_5))else l_2.getD i 0)=(ah i32 (a.length+1) fun i'=>af (decide (i'=(W (n+ ↑b.length)).toNat)) [SV.int IntKind.u32 (V (U (U
  (U (l_2.getD (W (n+ ↑b.length)).toNat 0)-n_4)-n_5)))] [SV.int IntKind.u32 (l_2.getD i' 0)]).getD i 0)/\ ∀(n_6 n_7:Int) (l_3:List Int),mP a
  b n n_6 n_7 l_3->(n_6< ↑b.length->(0<=W (n_6+n)/\W (n_6+n)<((a.length+1:Nat):Int))/\W (n_6+n)< ↑a.length+1/\(0<=n_6/\n_6< ↑b.length)/\n_6.toNat
  <b.length+1/\(0<=W (n_6+n)/\W (n_6+n)<((a.length+1:Nat):Int))/\W (n_6+n)< ↑a.length+1/\mP a b n (W (n_6+1)) (U (U (U (l_3.getD (W (n_6
  +n)).toNat 0)+U ((yX b).getD n_6.toNat 0))+n_7)/4294967296) (ah i32 (a.length+1) fun i'=>af (decide (i'=(W (n_6+n)).toNat)) [SV.int
  IntKind.u32 (V (U (U (U (l_3.getD (W (n_6+n)).toNat 0)+U ((yX b).getD n_6.toNat 0))+n_7)))] [SV.int IntKind.u32 (l_3.getD i' 0)])/\max (↑b.length
  -W (n_6+1)) 0< ↑b.length-n_6/\ ∀(i:Nat),i<a.length+1->(if i=(W (n_6+n)).toNat then V (U (U (U (l_3.getD (W (n_6+n)).toNat 0)+U ((yX
  b).getD n_6.toNat 0))+n_7))else l_3.getD i 0)=(ah i32 (a.length+1) fun i'=>af (decide (i'=(W (n_6+n)).toNat)) [SV.int IntKind.u32 (V
  (U (U (U (l_3.getD (W (n_6+n)).toNat 0)+U ((yX b).getD n_6.toNat 0))+n_7)))] [SV.int IntKind.u32 (l_3.getD i' 0)]).getD i 0)/\(↑b.length<=n_6
  ->(0<=W (n+ ↑b.length)/\W (n+ ↑b.length)<((a.length+1:Nat):Int))/\W (n+ ↑b.length)< ↑a.length+1/\(0<=W (n+ ↑b.length)/\W (n+ ↑b.length)<((a.length+1:Nat):Int))/\W (n+ ↑b.length)< ↑a.length+1/\(0<=n/\n<max ((a.length:Int)-b.length+1) 0)/\n<((a.length-b.length:Nat):Int)+1/\inv1 a b (W (n-1)) (ah
  i32 (a.length+1) fun i'=>af (decide (i'=(W (n+ ↑b.length)).toNat)) [SV.int IntKind.u32 (V (l_3.getD (W (n+ ↑b.length)).toNat 0+V n_7))] [SV.int
  IntKind.u32 (l_3.getD i' 0)]) (ah i32 (a.length-b.length+1) fun i'=>af (decide (i'=n.toNat)) [SV.int IntKind.u32 (V (U (G-1)))] [SV.int
  IntKind.u32 (l_1.getD i' 0)])/\max (W (n-1)+1) 0<n+1/\(∀(i:Nat),i<a.length+1->(if i=(W (n+ ↑b.length)).toNat then V (l_3.getD (W
  (n+ ↑b.length)).toNat 0+V n_7)else l_3.getD i 0)=(ah i32 (a.length+1) fun i'=>af (decide (i'=(W (n+ ↑b.length)).toNat)) [SV.int IntKind.u32
  (V (l_3.getD (W (n+ ↑b.length)).toNat 0+V n_7))] [SV.int IntKind.u32 (l_3.getD i' 0)]).getD i 0)/\ ∀(i:Nat),i<a.length-b.length+1->(if i
  =n.toNat then V (U (G-1))else l_1.getD i 0)=(ah i32 (a.length-b.length+1) fun i'=>af (decide (i'=n.toNat)) [SV.int IntKind.u32 (V (U
  (G-1)))] [SV.int IntKind.u32 (l_1.getD i' 0)]).getD i 0))/\(U (U (U (l_2.getD (W (n+ ↑b.length)).toNat 0)-n_4)-n_5)/9223372036854775808=0->
  (0<=n/\n<max ((a.length:Int)-b.length+1) 0)/\n<((a.length-b.length:Nat):Int)+1/\inv1 a b (W (n-1)) (ah i32 (a.length+1) fun i'=>af (decide
  (i'=(W (n+ ↑b.length)).toNat)) [SV.int IntKind.u32 (V (U (U (U (l_2.getD (W (n+ ↑b.length)).toNat 0)-n_4)-n_5)))] [SV.int IntKind.u32 (l_2.getD
  i' 0)]) (ah i32 (a.length-b.length+1) fun i'=>af (decide (i'=n.toNat)) [SV.int IntKind.u32 (V (G))] [SV.int IntKind.u32 (l_1.getD i' 0)])
  /\max (W (n-1)+1) 0<n+1/\(∀(i:Nat),i<a.length+1->(if i=(W (n+ ↑b.length)).toNat then V (U (U (U (l_2.getD (W (n+ ↑b.length)).toNat
  0)-n_4)-n_5))else l_2.getD i 0)=(ah i32 (a.length+1) fun i'=>af (decide (i'=(W (n+ ↑b.length)).toNat)) [SV.int IntKind.u32 (V (U (U
  (U (l_2.getD (W (n+ ↑b.length)).toNat 0)-n_4)-n_5)))] [SV.int IntKind.u32 (l_2.getD i' 0)]).getD i 0)/\ ∀(i:Nat),i<a.length-b.length+1->
  (if i=n.toNat then V (G)else l_1.getD i 0)=(ah i32 (a.length-b.length+1) fun i'=>af (decide (i'=n.toNat)) [SV.int IntKind.u32 (V (G))]
  [SV.int IntKind.u32 (l_1.getD i' 0)]).getD i 0)):=by
 have hlen:=FK hinv;have hla:=c.le;have hn2:=c.n2;have hbig:=c.HU;have hnl:n+b.length<=a.length:=by unfold inv1 at hinv;exact hinv.2.1
 obtain⟨g0,g1,_,_⟩:=id hg;rw [kE hlen.1.symm];have e2:W (n+ ↑b.length)=n+b.length:=aG (by omega) (by omega);have e3:(n+(b.length:Int)).toNat=n.toNat+b.length:=by omega
 have e4:W (n-1)=n-1:=aG (by omega) (by omega);rw [e2,e3,e4];refine⟨⟨c.VA hinv hn,fun _ _=>rfl⟩,fun i x w u h3=>⟨fun hi=> ?_,fun hi=> ?_⟩⟩
 . have hi0:0<=i:=by unfold kh at h3;exact h3.1
   have ul:=DU (by omega) h3;have e1:W (i+n)=i+(n.toNat:Int):=by rw [aG (by omega) (by omega)];omega
   obtain⟨x0,x1,w0,w1,du,hs⟩:=c.KU g0 g1 h3 hi;have vd:(yX b).getD i.toNat 0=v0 b/pw i.toNat%4294967296:=by rw [es,vdig _ (by omega)]
   rw [e1,aG (n:=i+1) (by omega) (by omega),vd];have hs2:=hs _ _ rfl rfl;have vi0:0<=v0 b/pw i.toNat%4294967296:=by omega
   have vi1:v0 b/pw i.toNat%4294967296<4294967296:=by omega
   generalize v0 b/pw i.toNat%4294967296=vi at*
   have p0:0<=G*vi:=Ja g0 vi0;have p1:G*vi<=4294967295*4294967295:=Qb (by omega) (by omega) vi0 (by omega);rw [ct (n:=vi) vi0 (by omega),ct (n:=G*vi) p0 (by omega),ct (n:=G*vi+x) (by omega) (by omega)];have q1:U (V (G*vi+x))=(G*vi+x)%4294967296:=by rw [iA,ct (by omega) (by omega)]
   rw [q1,ct (n:=u.getD (i+(n.toNat:Int)).toNat 0) (by omega) (by omega)];have q2:U (U (u.getD (i+(n.toNat:Int)).toNat 0-(G*vi+x)%4294967296)-w)=U (u.getD (i+(n.toNat:Int)).toNat 0-(G*vi+x)%4294967296-w):=by simp only [nt];omega
   rw [q2,tv ul.symm]
   and_intros<;>first|omega|assumption|exact fun i hi=>(bo (by omega)).symm
 . have ul:=DU (by omega) h3;obtain⟨du,x0,x1,w0,w1,ed,eset⟩:=c.Oi hg h3 hi;have q2:U (U (U (u.getD (n.toNat+b.length) 0)-x)-w)=U ((Big.bV a b n.toNat-G*v0 b)/pw b.length):=by rw [<-ed];simp only [nt];omega
   rw [q2,tv ul.symm];have hset: ∀y:Int,∀i,i<a.length+1->(if i=n.toNat+b.length then y else u.getD i 0)=(u.set (n.toNat+b.length) y).getD i 0:=fun y i hi=>(bo (by omega)).symm
   have hq: ∀y:Int,∀i,i<a.length-b.length+1->(if i=n.toNat then y else l_1.getD i 0)=(ah i32 (a.length-b.length+1) fun i'=>af (decide (i'=n.toNat)) [SV.int IntKind.u32 y] [SV.int IntKind.u32 (l_1.getD i' 0)]).getD i 0:=fun y i hi=>by
    rw [tv hlen.2.symm];exact(bo (by omega)).symm
   rcases Qe ((Big.bV a b n.toNat-G*v0 b)/pw b.length) 0 with hd|hd
   . obtain⟨r1,r2,r3⟩:=c.Ek hg hd;rw [r3];have q3:U (-1)=18446744073709551615:=by rw [nt];rfl
     have q4:V 18446744073709551615=4294967295:=by rw [iA];rfl
     rw [q3,q4];refine⟨by omega,by omega,by omega,by omega,fun _=>⟨⟨?_,hset _⟩,fun i x u' h4=>⟨fun hi=> ?_,fun hi=> ?_⟩⟩,fun h=>absurd h (by decide)⟩
     . refine V9 ?_;rw [eset,r2]
     . have hi0:0<=i:=by unfold mP at h4;exact h4.1
       have ul4:=FA (by omega) h4;have e1:W (i+n)=i+(n.toNat:Int):=by rw [aG (by omega) (by omega)];omega
       obtain⟨x0,x1,du,hs⟩:=c.KG h4 hi;have vd:(yX b).getD i.toNat 0=v0 b/pw i.toNat%4294967296:=by rw [es,vdig _ (by omega)]
       rw [e1,aG (n:=i+1) (by omega) (by omega),vd,ct (n:=u'.getD (i+(n.toNat:Int)).toNat 0) (by omega) (by omega),ct (n:=v0 b/pw i.toNat%4294967296) (by omega) (by omega),ct (n:=u'.getD (i+(n.toNat:Int)).toNat 0+v0 b/pw i.toNat%4294967296) (by omega) (by omega),ct (by omega) (by omega),tv ul4.symm];have hs2:=hs _ rfl
       and_intros<;>first|omega|assumption|exact fun i hi=>(bo (by omega)).symm
     . have ul4:=FA (by omega) h4;obtain⟨y1,y2,y3⟩:=c.ME h4 hi;rw [y1,y2];have z1:V (4294967295+V 1)=0:=by simp only [iA];rfl
       have z2:V (U (G-1))=Big.bV a b n.toNat/v0 b:=by
        have:=c.O6 n.toNat;rw [ct (by omega) (by omega),Aj (by omega) (by omega)];exact r1
       rw [z1,z2,tv ul4.symm];have hset4: ∀i,i<a.length+1->(if i=n.toNat+b.length then(0:Int)else u'.getD i 0)=(u'.set (n.toNat+b.length) 0).getD i 0:=fun i hi=>(bo (by omega)).symm
       have hcl:=c.yw (u':=u'.set (n.toNat+b.length) 0) hinv hn (by
        rw [y3,show a.length+1-n.toNat-b.length=(a.length-n.toNat-b.length)+1 by omega,Qy])
       have hcl2:inv1 a b (n-1) (u'.set (n.toNat+b.length) 0) (ah i32 (a.length-b.length+1) fun i'=>af (decide (i'=n.toNat)) [SV.int IntKind.u32 (Big.bV a b n.toNat/v0 b)] [SV.int IntKind.u32 (l_1.getD i' 0)]):=by rw [tv hlen.2.symm];exact hcl
       refine⟨by omega,by omega,by omega,by omega,by omega,by omega,hcl2,by omega,hset4,hq _⟩
   . obtain⟨r1,r2,r3⟩:=c.EV hg hd;rw [r3];have q3:U 0=0:=by rw [nt];rfl
     have q4:V 0=0:=by rw [iA];rfl
     rw [q3,q4];have z2:V G=Big.bV a b n.toNat/v0 b:=by rw [Aj (by omega) (by omega)];exact r1
     have hcl:=c.yw (u':=u.set (n.toNat+b.length) 0) hinv hn (by
      rw [eset,r2,show a.length+1-n.toNat-b.length=(a.length-n.toNat-b.length)+1 by omega,Qy])
     have hcl2:inv1 a b (n-1) (u.set (n.toNat+b.length) 0) (ah i32 (a.length-b.length+1) fun i'=>af (decide (i'=n.toNat)) [SV.int IntKind.u32 (Big.bV a b n.toNat/v0 b)] [SV.int IntKind.u32 (l_1.getD i' 0)]):=by rw [tv hlen.2.symm];exact hcl
     rw [z2];refine⟨by omega,by omega,by omega,by omega,fun h=>absurd (by decide) h,fun _=>⟨by omega,by omega,hcl2,by omega,hset 0,hq _⟩⟩
theorem Ny (a b:List Int):u0 a b%v0 b=(nv a%nv b)*2^(rX b).toNat:=by
 unfold u0 v0;rw [J6 (nv a),J6 (nv b),Int.mul_emod_mul_of_pos _ _ (two_pos _),J6]
theorem QF {z:Int} {s:Nat} (hs:s<32) (hs0:0<s) (i:Nat):z/pw i%4294967296=(z*2^s)/pw i%4294967296/2^s+2^(32-s)*((z*2^s)/pw (i+1)%4294967296%2^s):=by
 have p1:=two_pos s;have p2:=two_pos (32-s);have hB:(2:Int)^(32-s)*2^s=4294967296:=by rw [<-Int.pow_add,show 32-s+s=32 by omega];rfl
 have e1:z/pw i=(z*2^s)/pw i/2^s:=by
  rw [Qd (by have:=aE i;omega),Int.mul_ediv_mul_of_pos_left _ _ p1]
 rw [e1,<-cq];generalize z*2^s/pw i=Z;have e2:Z=Z%4294967296+2^s*(2^(32-s)*(Z/4294967296)):=by
  rw [<-Int.mul_assoc,J6 (2^s),hB];omega
 have e3:Z/2^s=Z%4294967296/2^s+2^(32-s)*(Z/4294967296):=by
  conv=>lhs;rw [e2]
  rw [X3 _ _ (by omega)]
 have e4:(Z/4294967296)=2^s*(Z/4294967296/2^s)+Z/4294967296%2^s:=(Qs _ _).symm;have e5:(2:Int)^(32-s)*(Z/4294967296)=4294967296*(Z/4294967296/2^s)+2^(32-s)*(Z/4294967296%2^s):=by
  conv=>lhs;rw [e4]
  rw [Kg,<-Int.mul_assoc,hB]
 have e6:Z/4294967296%4294967296%2^s=Z/4294967296%2^s:=Int.emod_emod_of_dvd _ ⟨2^(32-s),by rw [J6];exact hB.symm⟩;rw [e3,e5,e6];have q0:0<=Z%4294967296/2^s:=Kb (by omega) (by omega);have q1:Z%4294967296/2^s<2^(32-s):=(Kl p1).2 (by rw [hB];omega);have q2:=Jm (Z/4294967296) (show(2:Int)^s≠0 by omega);have q3:=Jo (Z/4294967296) p1;have q4:(2:Int)^(32-s)*(Z/4294967296%2^s)<=2^(32-s)*(2^s-1):=Jt (by omega) (by omega)
 rw [Qm,hB,Ke]at q4;have q5:0<=(2:Int)^(32-s)*(Z/4294967296%2^s):=Ja (by omega) q2;omega
theorem Ux {x y:Int} {s:Nat} (hs:s<32) (hs0:0<s) (hx:GD x) (hy:GD y):bits .or .u32 (x/2^s) (V (y*2^(32-s)))=x/2^s+2^(32-s)*(y%2^s):=by
 have p1:=two_pos s;have p2:=two_pos (32-s);have hB:(2:Int)^(32-s)*2^s=4294967296:=by rw [<-Int.pow_add,show 32-s+s=32 by omega];rfl
 have e1:V (y*2^(32-s))=2^(32-s)*(y%2^s):=by
  rw [iA,<-hB,J6 y,Int.mul_emod_mul_of_pos _ _ p2]
 have q1:x/2^s<2^(32-s):=(Kl p1).2 (by rw [hB];exact hx.2);have q2:=Jm y (show(2:Int)^s≠0 by omega);have q3:=Jo y p1;have q4:(2:Int)^(32-s)*(y%2^s)<=2^(32-s)*(2^s-1):=Jt (by omega) (by omega);rw [Qm,hB,Ke]at q4;rw [e1];exact NS (Kb hx.1 (by omega)) q1 q2 (by omega)
theorem Ft {a b:List Int} {i:Int} {r:List Int} (h:rC a b i r):r.length=b.length:=by
 unfold rC at h;obtain⟨h1,h2,rfl⟩:=h;simp;omega
theorem VN (a b:List Int):rC a b 0 (List.replicate b.length 0):=by
 unfold rC;simp [dg]
theorem Bi {a b:List Int} {i v:Int} {r:List Int} (h:rC a b i r) (hi:i<b.length) (hv:v=(nv a%nv b)/pw i.toNat%4294967296):rC a b (i+1) (r.set i.toNat v):=by
 unfold rC at h⊢;obtain⟨h1,h2,h3⟩:=h;rw [show(i+1).toNat=i.toNat+1 by omega];refine⟨by omega,by omega,?_⟩;have:=uj (t:=0) (v:=v) h3 (by omega) (by rw [hv];simp);rw [this];simp
theorem P4 {a b:List Int} {i:Int} {r:List Int} (h:rC a b i r) (hi:(b.length:Int)<=i):r=dg b.length (nv a%nv b):=by
 unfold rC at h;obtain⟨h1,h2,h3⟩:=h;have e:i.toNat=b.length:=by omega
 rw [h3,e];simp
set_option maxHeartbeats 4000000 in
theorem k381 :aH Tryz.prog Wm:=av k393 hm Tryz.func381 (by kernel_rfl) (by kernel_rfl) To.ok (by kernel_rfl) (fun a=>ZJ a.1 a.2) fun a hp=>by
 have h:Se a.1 a.2:=by
  rw [<-NH];simp only [aA];obtain⟨a,b⟩:=a;dsimp only at hp;simp [-List.getD_eq_getElem?_getD,hp,O4];obtain⟨f1,f2,f3⟩:=vW hp;have ca:=jV f1;have cb:=jV f2;have la:=iC f1;have lb:=iC f2;have hb0:0<b.length:=by
   rcases Nat.eq_zero_or_pos b.length with h|h
   . rw [List.eq_nil_of_length_eq_zero h]at f3;simp [nv]at f3
   . exact h
  refine⟨⟨CL f1,CL f2⟩,fun hlt=> ?_,fun hge=>⟨fun h1=> ?_,fun h1=> ?_⟩⟩
  . have hlt':nv a<nv b:=by
     rcases Int.lt_or_le (nv a) (nv b)with h|h
     . exact h
     . have:=mW.2 h;omega
    have eq:qL a b=[]:=by unfold qL;rw [if_pos hlt']
    have er:rL a b=a:=by unfold rL;rw [if_pos hlt']
    rw [eq,er];exact⟨⟨by omega,by omega⟩,rfl,rfl,fun _ _=>rfl⟩
  . have hle:=mW.1 hge;have h1':b.length=1:=by omega
    have eq:qL a b=vq a (b.getD 0 0):=by unfold qL;rw [if_neg (by omega),if_pos h1']
    have er:rL a b=[nv a%b.getD 0 0]:=by unfold rL;rw [if_neg (by omega),if_pos h1']
    rw [eq,er];have hd:=bH cb.1 0;have hnz:=cb.2 (by intro e;rw [e]at h1';simp at h1');rw [h1',show 1-1=0 from rfl]at hnz;have hdv:zO a (b.getD 0 0):=by unfold zO;exact⟨sX f1,by omega,hd.2⟩
    exact⟨by omega,hdv,⟨rfl,fun _ _=>rfl⟩,rfl,rfl⟩
  . have hle:=mW.1 hge;have c:=SR hp hle (by omega);have hs:=sf_eq hb0 (by omega);have es:yX b=dg (b.length+1) (v0 b):=by unfold yX Lf;rw [O4,hs];unfold v0;rfl
    have eu:Wb a b=dg (a.length+1) (u0 a b):=by unfold Wb Lf;rw [O4,hs];unfold u0;rfl
    have hn:=c.n2;have hla:=c.le;have em:mm a b=a.length-b.length:=by unfold mm;exact aG (by omega) (by omega)
    have w1:W ((b.length:Int)-1)=b.length-1:=aG (by omega) (by omega);have w2:W ((b.length:Int)-2)=b.length-2:=aG (by omega) (by omega);have w3:W (mm a b+1)=a.length-b.length+1:=by rw [em];exact aG (by omega) (by omega)
    have t1:=c.top;have n1:((b.length:Int)-1).toNat=b.length-1:=by omega
    have n2:((b.length:Int)-2).toNat=b.length-2:=by omega
    have dt:=bH cb.1 (b.length-1);have v1:(yX b).getD (b.length-1) 0=v0 b/pw (b.length-1):=by rw [es,vdig _ (by omega)];exact t1.1
    have v2:(yX b).getD (b.length-2) 0=v0 b/pw (b.length-2)%4294967296:=by rw [es,vdig _ (by omega)]
    have vl:(yX b).length=b.length+1:=by rw [es];simp
    have ul:(Wb a b).length=a.length+1:=by rw [eu];simp
    have u1:U (v0 b/pw (b.length-1))=v0 b/pw (b.length-1):=ct (by omega) (by omega);have u2:U (v0 b/pw (b.length-2)%4294967296)=v0 b/pw (b.length-2)%4294967296:=ct (by omega) (by omega);have hshA:Ad a (sf b):=by unfold Ad;rw [hs];exact⟨sX f1,c.s0,c.s1⟩
    have hshB:Ad b (sf b):=by unfold Ad;rw [hs];exact⟨sX f2,c.s0,c.s1⟩
    rw [w1,w2,w3,n1,n2,v1,v2,vl,ul,u1,u2,kE ul.symm,em];have him:pq (b.getD (b.length-1) 0):=by unfold pq;exact dt
    have i0:=c.V5;rw [<-eu]at i0;refine⟨by omega,him,hshA,hshB,by omega,by omega,by omega,by omega,by omega,by omega,⟨i0,⟨rfl,fun _ _=>rfl⟩,by omega,fun i hi=>(gR _ _).symm⟩,fun n l l_1 hinv=>⟨fun hn=> ?_,fun hn=> ?_⟩⟩
    . have hnl:n+b.length<=a.length:=by unfold inv1 at hinv;exact hinv.2.1
      have e2:W (n+ ↑b.length)=n+b.length:=aG (by omega) (by omega);have e3:W (n+(b.length:Int)-1)=n+b.length-1:=aG (by omega) (by omega);have e4:W (n+(b.length:Int)-2)=n+b.length-2:=aG (by omega) (by omega);have x2:(n+(b.length:Int)).toNat=n.toNat+b.length:=by omega
      have x3:(n+(b.length:Int)-1).toNat=n.toNat+(b.length-1):=by omega
      have x4:(n+(b.length:Int)-2).toNat=n.toNat+(b.length-2):=by omega
      have wt:=c.CJ n.toNat;have hww:=c.wb n.toNat;have wn0:0<=Big.bV a b n.toNat/pw (b.length-1):=Int.ediv_nonneg hww.1 (by have:=aE (b.length-1);omega);have g1:U (U (Big.bV a b n.toNat/pw b.length%4294967296)*4294967296)=Big.bV a b n.toNat/pw b.length%4294967296*4294967296:=by
       rw [ct (n:=Big.bV a b n.toNat/pw b.length%4294967296) (by omega) (by omega),ct (by omega) (by omega)]
      have orr: ∀x y:Int,0<=x->x<4294967296->GD y->bits BinOp.or IntKind.u64 (x*4294967296) y=x*4294967296+y:=by
       intro x y hx hx2 hy;have:=yZ (u:=y) (y:=x) (r:=32) hy.1 (by have:=hy.2;omega) hx (by have:=hy.2;omega);rw [show(2:Int)^32=4294967296 from rfl]at this;rw [Bo,Int.mul_comm,this];omega
      have num:bits BinOp.or IntKind.u64 (U (U (l.getD (n.toNat+b.length) 0)*4294967296)) (U (l.getD (n.toNat+(b.length-1)) 0))=Big.bV a b n.toNat/pw (b.length-1):=by
       rw [c.Wv hinv hn (by omega),c.Wv hinv hn (by omega),g1,ct (by omega) (by omega),orr _ _ (by omega) (by omega) ⟨by omega,by omega⟩];exact wt.2.2.1
      have u3:U (l.getD (n.toNat+(b.length-2)) 0)=Big.bV a b n.toNat/pw (b.length-2)%4294967296:=by
       rw [c.Wv hinv hn (by omega),ct (by omega) (by omega)]
      rw [e2,e3,e4,x2,x3,x4,num,u3,Int.tdiv_eq_ediv_of_nonneg wn0,Int.tmod_eq_emod_of_nonneg wn0];have wnb:Big.bV a b n.toNat/pw (b.length-1)<18446744073709551616:=by
       have h1:=wt.2.2.2;have h2:(v0 b/pw (b.length-1)+1)*4294967296<=4294967296*4294967296:=Int.mul_le_mul_of_nonneg_right (by omega) (by omega);omega
      have uq:U (Big.bV a b n.toNat/pw (b.length-1)/(v0 b/pw (b.length-1)))=Big.bV a b n.toNat/pw (b.length-1)/(v0 b/pw (b.length-1)):=by
       refine ct (Int.ediv_nonneg wn0 (by omega)) ?_;have:=Int.ediv_le_self (v0 b/pw (b.length-1)) wn0;omega
      rw [uq];have core:=fun(G:Int) (hG:ak a b n G)=>ZU c hinv hn hG es
      rw [e2,x2]at core;refine⟨by omega,by omega,by omega,by omega,by omega,c.Wk,fun g r h2=> ?_⟩;have r0:0<=r:=by unfold inv2 at h2;exact h2.1
      have r1:r<4294967296:=by unfold inv2 at h2;exact h2.2.1
      have gq:Big.bV a b n.toNat/v0 b<=g:=by unfold inv2 at h2;exact h2.2.2.2
      have ge:g*(v0 b/pw (b.length-1))+r=Big.bV a b n.toNat/pw (b.length-1):=by unfold inv2 at h2;exact h2.2.2.1
      have hq:=c.O6 n.toNat;have gle:g<18446744073709551616:=by
       have:g*1<=g*(v0 b/pw (b.length-1)):=Int.mul_le_mul_of_nonneg_left (by omega) (by omega);omega
      rw [ct (n:=r+v0 b/pw (b.length-1)) (by omega) (by omega)];have or2:bits BinOp.or IntKind.u64 (U (r*4294967296)) (Big.bV a b n.toNat/pw (b.length-2)%4294967296)=r*4294967296+Big.bV a b n.toNat/pw (b.length-2)%4294967296:=by
       rw [ct (by omega) (by omega),orr _ _ r0 r1 ⟨by omega,by omega⟩]
      rw [or2];have again:(4294967296<=g\/r*4294967296+Big.bV a b n.toNat/pw (b.length-2)%4294967296<g*(v0 b/pw (b.length-2)%4294967296))->U (g-1)=g-1/\(4294967296<=r+v0 b/pw (b.length-1)->ak a b n (g-1))/\(r+v0 b/pw (b.length-1)<4294967296->inv2 a b n (g-1) (r+v0 b/pw (b.length-1))/\max (g-1) 0<g):=by
       intro hc;obtain⟨s1,s2,s3,s4,s5⟩:=c.XL h2 hc;refine⟨ct (by omega) (by omega),fun hr=> ?_,fun hr=>⟨s5 hr,by omega⟩⟩;refine c.It s3 s4 ?_ (by omega) (.inl hr);rcases Int.lt_or_le g 4294967296 with h|h
       . omega
       . rcases s2 h with h|h
         . omega
         . exact h
      refine⟨fun hg=> ?_,fun hg=> ?_⟩
      . obtain⟨a1,a2,a3⟩:=again (.inl hg);rw [a1];exact⟨fun hr=>core _ (a2 hr),fun hr=>a3 hr⟩
      . have p0:0<=g*(v0 b/pw (b.length-2)%4294967296):=Int.mul_nonneg (by omega) (by omega);have p1:g*(v0 b/pw (b.length-2)%4294967296)<=4294967295*4294967295:=Int.mul_le_mul (by omega) (by omega) (by omega) (by omega);rw [ct p0 (by omega)];refine⟨by omega,by omega,fun hc=> ?_,fun hc=> ?_⟩
        . obtain⟨a1,a2,a3⟩:=again (.inr hc);rw [a1];exact⟨fun hr=>core _ (a2 hr),fun hr=>a3 hr⟩
        . exact core g (c.It gq ge hg r0 (.inr hc))
    . obtain⟨eu1,eq1⟩:=MX hinv hn;have hs0:=c.s0;have hs1:=c.s1;rw [hs,ct (n:=rX b) (by omega) (by omega),aG (n:=32-rX b) (by omega) (by omega),ct (n:=32-rX b) (by omega) (by omega)];have eq:qL a b=l_1:=by unfold qL;rw [if_neg (by omega),if_neg (by omega),eq1]
      refine⟨by omega,⟨VN a b,fun i hi=>(gR _ _).symm⟩,fun i r h5=>⟨fun hi=> ?_,fun hi=> ?_⟩⟩
      . have hi0:0<=i:=by unfold rC at h5;exact h5.1
        have hlen:=Ft h5;have e1:W (i+1)=i+1:=aG (by omega) (by omega);have d1:l.getD i.toNat 0=(nv a%nv b)*2^(rX b).toNat/pw i.toNat%4294967296:=by rw [eu1,tA _ (by omega),Ny]
        have d2:l.getD (i+1).toNat 0=(nv a%nv b)*2^(rX b).toNat/pw (i.toNat+1)%4294967296:=by rw [eu1,tA _ (by omega),Ny,show(i+1).toNat=i.toNat+1 by omega]
        rw [e1,d1,d2,show min (rX b).toNat 32=(rX b).toNat by omega,show min (32-rX b).toNat 32=32-(rX b).toNat by omega];refine⟨by omega,by omega,by omega,by omega,by omega,fun hs=> ?_,fun hs=> ?_⟩
        . have ho:=Ux (x:=(nv a%nv b)*2^(rX b).toNat/pw i.toNat%4294967296) (y:=(nv a%nv b)*2^(rX b).toNat/pw (i.toNat+1)%4294967296) (s:=(rX b).toNat) (by omega) (by omega) ⟨by omega,by omega⟩ ⟨by omega,by omega⟩;rw [<-QF (by omega) (by omega)]at ho;rw [ho,Vn (by omega)];have hst:=Bi h5 hi rfl;have hss: ∀x y:Int,(r.set i.toNat x).set i.toNat y=r.set i.toNat y:=fun x y=>by simp
          rw [hss]
          and_intros<;>first|omega|assumption|skip
          intro k hk;rw [bo (by omega)];split
          . rfl
          . rename_i hne;rfl
        . have s00:(rX b).toNat=0:=by omega
          rw [s00];simp only [Int.pow_zero,Int.mul_one,Int.ediv_one];rw [tv hlen.symm];have hst:=Bi h5 hi rfl
          and_intros<;>first|omega|assumption|exact fun i hi=>(bo (by omega)).symm
      . have er:rL a b=r:=by unfold rL;rw [if_neg (by omega),if_neg (by omega),P4 h5 hi]
        rw [eq,er];have hlen:=Ft h5;have hlq:=(FK hinv).2;exact⟨by omega,⟨by omega,fun _ _=>rfl⟩,hlen.symm,fun _ _=>rfl⟩
 exact h
def yA (a b x y:Int):Prop:=0<=x/\0<=y/\fit x/\fit y/\Int.gcd x y=Int.gcd a b
def gC (z:Int) (w i:Int) (lost:Bool):Prop:=0<=i/\(i<=w\/i=0)/\lost= !decide (nv ((dz z).take i.toNat)=0)
def dB (z:Int) (w r:Nat) (i:Int) (out:List Int):Prop:=(w:Int)<=i/\(i<=(dz z).length\/i=w)/\out=dg (i.toNat-w) ((z.natAbs:Int)/pw w/2^r)
attribute [irreducible] yA gC dB
def c284 :bB:=fl sZ.dec (fun a=>fit a) (fun a=>iS (bl a))
def WB :List (Nat×bB):=(284,c284)::Wm
def TM (z:Int):Prop:=fQ Wm Tryz.f284 [] [zS z] (iS (bl z))
def c340 :bB:=fl DK.dec (fun a=>fit a.1/\fit a.2/\a.2≠0) (fun a=> .bp [zS (a.1.tdiv a.2),zS (a.1.tmod a.2)])
def U9 :List (Nat×bB):=(340,c340)::WB
def SD (x:Int) (y:Int):Prop:=fQ WB Tryz.f340 [] [zS x,zS y] (.bp [zS (x.tdiv y),zS (x.tmod y)])
def c362 :bB:=fl DK.dec (fun a=>fit a.1/\fit a.2) (fun a=>zS (Int.gcd a.1 a.2:Int))
def VP :List (Nat×bB):=(362,c362)::U9
def a362 (x:Int) (y:Int):List kM:=[⟨.unit, .list [.N2 aj 3 0, .N2 aj 4 0],fun _ (s:Int×Int)=>yA x y s.1 s.2,fun _ (s:Int×Int)=>s.2.toNat⟩]
def SM (x:Int) (y:Int):Prop:=fQ U9 Tryz.f362 (a362 x y) [zS x,zS y] (zS (Int.gcd x y:Int))
def c394 :bB:=fl T0.dec (fun a=>fit a.1/\di a.2) (fun a=>zS (a.1/2^a.2.toNat))
def Wn :List (Nat×bB):=(394,c394)::VP
def aad (z:Int) (n:Int):List kM:=[⟨.unit, .list [.int .i64 (.tm 10), .bool (.tm 9)],fun _ (s:Int×Bool)=>gC z (n.toNat/32:Nat) s.1 s.2,fun _ (s:Int×Bool)=>(n-s.1).toNat⟩,⟨.unit, .list [.int .i64 (.tm 12), .ah i32 2 41 [.tm 11]],fun _ (s:Int×List Int)=>dB z (n.toNat/32) (n.toNat%32) s.1 s.2,fun _ (s:Int×List Int)=>((dz z).length-s.1).toNat⟩]
def SN (z:Int) (n:Int):Prop:=fQ VP Tryz.f394 (aad z n) [zS z,iS n] (zS (z/2^n.toNat))
theorem LL (z:Int):(
 let g:=fun(x:Int) (y:Nat)=>(aF IntKind.u32).enc ((dz x).getD y 0)
 let d:=fun(x:Int)=>(↑(dz (zz x)).length:Int)
 let e:=fun(x:Int)=>d x==0
 let c:=fun(x:Int)=>W (d x-1)
 let f:=fun(x:Int)=>(dz (zz x)).getD (c x).toNat 0
 ab 2 ((aj.ak [SV.bool (decide (z<0)),SV.aI 1 (dz z).length fun i=>g z i]/\fit (zz z))/\ab 2 ((e z=true->ab 2 (0=bl z/\True))/\(e z=false
  ->(0<=c z/\c z<d z)/\True/\(True/\pq (f z))/\ab 2 (W (W (32*c z)+bl (f z))=bl z/\True)))))=TM z:=by kernel_rfl
theorem PK (x:Int) (y:Int):(
 let d:=aF IntKind.u32
 let q:=fun(x:Int) (y:Nat)=>d.enc ((dz x).getD y 0)
 let j:=fun(x:Int)=>aj.ak [SV.bool (decide (x<0)),SV.aI 1 (dz x).length fun i=>q x i]/\fit (zz x)
 let h:=true=true/\True
 let k:=fun(x:Int)=> ∀(i:Nat),i<(dz (zz x)).length->h
 let r:=fun(x:Int) (y:Nat)=>d.enc ((dz (zz x)).getD y 0)
 let c:=fun(x:Int)=>ah d (dz (zz x)).length fun i=>r x i
 let s:=fun(x y:Int) (u:Nat)=>d.enc ((qL (c x) (c y)).getD u 0)
 let o:=fun(x y:Int)=>ah d (qL (c x) (c y)).length fun i=>s x y i
 let t:=fun(x y:Int) (u:Nat)=>d.enc ((rL (c x) (c y)).getD u 0)
 let f:=fun(x y:Int)=>ah d (rL (c x) (c y)).length fun i=>t x y i
 let e:=fun(x:Int)=>decide (zz x<0)
 let g:=fun(x y:Int)=>zv (!e x==e y) (o x y)
 let p:=fun(x y:Int)=>(dz (zv (e x) (f x y))).length
 ab 2 (j x/\ab 2 (j y/\ab 3 (((k x/\k y)/\tY (c x) (c y))/\ab 3 (((True/\ ∀(i:Nat),i<(qL (c x) (c y)).length->h)/\br (o x y))/\ab 2 (((True
  /\ ∀(i:Nat),i<(rL (c x) (c y)).length->h)/\br (f x y))/\ab 3 (((decide (g x y<0)=decide (x.tdiv y<0)/\((dz (g x y)).length=(dz (x.tdiv y)).length
  /\ ∀(i:Nat),i<(dz (g x y)).length->(dz (g x y)).getD i 0=(dz (x.tdiv y)).getD i 0/\True)/\True)/\(decide (zv (e x) (f x y)<0)=decide (x.tmod y<0)
  /\(p x y=(dz (x.tmod y)).length/\ ∀(i:Nat),i<p x y->(dz (zv (e x) (f x y))).getD i 0=(dz (x.tmod y)).getD i 0/\True)/\True)/\True)/\True)))))))=SD x y:=by kernel_rfl
theorem NQ (x:Int) (y:Int):(
 let h:=fun(x:Int)=>decide (x<0)
 let d:=fun(x:Int)=>(dz x).length
 let q:=fun(x:Int) (y:Nat)=>(dz x).getD y 0
 let z:=fun(x:Int)=>fun i=>(aF IntKind.u32).enc (q x i)
 let f:=fun(x:Int)=>aj.ak [SV.bool (h x),SV.aI 1 (d x) (z x)]
 let c:=fun(x:Int)=>zz x
 let w:=ru true
 let e:=fun(x:Int)=>(↑(c x).natAbs:Int)
 let j:=fun(x:Int)=>zz (e x)
 let A:=ab 42 True
 let r:=([]:List ar)
 let B:=fun(x:Int)=>List.map ar.shape (ar.s (SV.bool (h x))::ar.s (SV.aI 1 (d x) (z x))::r)
 let t:=fun(x:Int)=>B x=B x
 let u:=fun(x:Int)=>sm (h x)/\(sm (d x)/\ ∀(i:Nat),i<d x->sm (q x i)/\True)/\True
 let C:=List.map ar.shape (ar.s SV.ff::r++(ar.s SV.aq::r++r))
 let g:=C=C
 let D:=ab 2 True
 let E:=fun(x:Int)=>decide (e x<0)=decide (j x<0)/\((dz (e x)).length=(dz (j x)).length/\ ∀(i:Nat),i<(dz (e x)).length->(dz (e x)).getD i 0
  =(dz (j x)).getD i 0/\True)/\True
 let F:=fun(x:Int)=>decide (↑(d x)>(0:Int))
 let v:=fun(x:Int)=>decide (↑(d x)<=(2:Int))
 let k:=fun(x y:Int)=>(↑((e x).gcd (e y)):Int)
 let G:=fun(x y:Int)=>decide (↑(x.gcd y)<0)
 let H:=fun(x y:Int)=>(dz ↑(x.gcd y)).length
 let J:=fun(x y:Int) (m:Nat)=>(dz ↑(x.gcd y)).getD m 0
 let o:=fun(x y:Int)=>(c x).tmod (c y)
 let p:=fun(x y:Int)=>zz (o x y)
 let K:=fun(x y m s:Int)=>((f x/\f y)/\fit (c x)/\fit (c y)/\c y≠0)/\True/\w/\yA m s (c y) (p x y)/\(p x y).toNat<y.toNat/\A/\t m/\u m/\
  t s/\u s/\g/\D/\g/\(h y=decide (c y<0)/\(d y=(dz (c y)).length/\ ∀(i:Nat),i<d y->q y i=(dz (c y)).getD i 0/\True)/\True)/\g/\(decide (o
  x y<0)=decide (p x y<0)/\((dz (o x y)).length=(dz (p x y)).length/\ ∀(i:Nat),i<(dz (o x y)).length->(dz (o x y)).getD i 0=(dz (p x y)).getD i 0
  /\True)/\True)/\True
 ab 2 ((f x/\fit (c x))/\True/\(f y/\fit (c y))/\w/\(yA x y (j x) (j y)/\A/\t x/\u x/\t y/\u y/\g/\D/\g/\E x/\g/\E y/\True)/\ ∀(a a_1:Int),
  yA x y a a_1->True/\(F a_1=true->(v a=true->True/\(v a_1=true->True/\(f a/\wz (c a))/\True/\(f a_1/\wz (c a_1))/\ab 2 (((True/\True)
  /\jW (e a)/\jW (e a_1))/\True/\(True/\jW (k a a_1))/\w/\True/\(decide (k a a_1<0)=G x y/\((dz (k a a_1)).length=H x y/\ ∀(i:Nat),i<(dz
  (k a a_1)).length->(dz (k a a_1)).getD i 0=J x y i/\True)/\True)/\True))/\(v a_1=false->ab 2 (K a a_1 x y)))/\(v a=false->ab 3 (K a a_1 x y)))/\
  (F a_1=false->ab 2 ((h a=G x y/\(d a=H x y/\ ∀(i:Nat),i<d a->q a i=J x y i/\True)/\True)/\True))))=SM x y:=by kernel_rfl
theorem Nc (z:Int) (n:Int):(
 let A:=fun(m:Int)=>(dz m).length
 let o:=aF IntKind.u32
 let f3:=fun(m:Int) (s:Nat)=>o.enc ((dz m).getD s 0)
 let d0:=fun(m:Int)=>SV.aI 1 (A m) fun i=>f3 m i
 let C:=([]:List SV)
 let d1:=(32:Int)≠(0:Int)
 let B:=fun(m:Int)=>m.toNat/32
 let D:=fun(m:Int)=>(↑(B m):Int)
 let k:=fun(m:Int)=>decide (zz m<0)
 let t:=fun(m:Int)=>sm (k m)
 let u:=fun(m:Int)=>dz (zz m)
 let c0:=fun(m:Int)=>(u m).length
 let v:=fun(m:Int)=>sm (c0 m)/\ ∀(i:Nat),i<c0 m->sm ((u m).getD i 0)/\True
 let g:=fun(m:Int)=>W (m.tdiv 32)
 let p:=fun(m:Int)=>sm (g m)
 let E:=fun(m:Int)=>U (m.tmod 32)
 let w:=fun(m:Int)=>sm (E m)
 let c1:=ab 92 True
 let F:=([]:List ar)
 let d2:=fun(m:Int)=>List.map ar.shape (ar.s (SV.bool (decide (m<0)))::ar.s (d0 m)::F)
 let G:=fun(m:Int)=>d2 m=d2 m
 let H:=fun(m:Int)=>sm (decide (m<0))/\(sm (A m)/\ ∀(i:Nat),i<A m->sm ((dz m).getD i 0)/\True)/\True
 let d3:=List.map ar.shape (ar.s SV.ff::F++(ar.s SV.aq::F++F))
 let J:=d3=d3
 let K:=ab 2 True
 let c2:=fun(m:Int)=>G m/\H m/\J/\K/\True
 let d:=fun(m:Int)=>(↑(c0 m):Int)
 let c:=fun(m:Int)=>W (m+1)
 let L:=true=true
 let d4:=fun(m s:Int)=>(u m).getD s.toNat 0 !=0
 let M:=fun(m:Int)=>m.toNat%32
 let x:=sm 0
 let c3:=ab 90 True
 let q:=i32
 let c4:=q.n
 let c5:=fun(m:Int)=>0<=E m
 let c6:=1<=1
 let c7:= ∀(j:Nat),j<1->L
 let h:=fun(m:List Int)=>m.length
 let e:=fun(m:List Int)=>h m+1
 let d5:=fun(m:List Int)=>x/\h m=h m/\e m<=140737488355328/\e m*4<=140737488355328
 let N:=fun(m:Nat) (s:List Int)=>decide (m<h s)
 let r:=q.qW
 let d6:=fun(m s:Int)=>U ((u m).getD s.toNat 0)
 let d7:=fun(m:Int)=>(2:Int)^min (E m).toNat (64:Nat)
 let d8:=fun(m s x1:Int)=>V (bits BinOp.or IntKind.u64 (d6 m s) (U (U ((u m).getD (c s).toNat 0)*4294967296))/d7 x1)
 let O:=fun(m:List Int) (s x1 y1:Int)=>ah q (e m) fun j=>af (N j m) (q.enc (m.getD j r)) (SV.int IntKind.u32 (d8 s x1 y1)::C)
 let d9:=fun(m s:Int)=>(↑(A m)-c s).toNat<(↑(A m)-s).toNat
 let P:=([]:List (Option (Nat×Nat)))
 let e0:=1=c4
 let e1:=fun(m s x1:Int)=>V (d6 m s/d7 x1)
 let Q:=fun(m:List Int) (s x1 y1:Int)=>ah q (e m) fun j=>af (N j m) (q.enc (m.getD j r)) (SV.int IntKind.u32 (e1 s x1 y1)::C)
 let e2:=fun(m s:Int)=>bits BinOp.and IntKind.u32 ((u m).getD (g s).toNat 0) (V (V (1*2^min (E s).toNat 32)-1)) !=0
 let e3:=fun(m:List Int)=>0+h m<=h m/\ ∀(i:Nat),i<h m->L
 let R:=L/\True
 let e4:=fun(m:List Int)=> ∀(i:Nat),i<h m->R
 let f4:=fun(m:List Int) (s:Nat)=>q.enc (m.getD (0+s) r)
 let f:=fun(m:List Int)=>ah o (h m) fun i=>f4 m i
 let e5:=fun(m:List Int)=>(List.take (tl (f m)) (f m)).length
 let f5:=fun(m:List Int) (s:Nat)=>o.enc ((List.take (tl (f m)) (f m)).getD s 0)
 let c8:=fun(m:List Int)=>ah o (e5 m) fun i=>f5 m i
 let c9:=ah o 1 fun i=>SV.int IntKind.u32 1::C
 let e6:=fun(m:List Int)=>(cf (c8 m) c9).length
 let f6:=fun(m:List Int) (s:Nat)=>o.enc ((cf (c8 m) c9).getD s 0)
 let T:=fun(m:List Int)=>ah o (e6 m) fun i=>f6 m i
 let y:=fun(m s:Int)=>m/2^s.toNat
 let e7:=fun(m:List Int)=>(dz (zv true (T m))).length
 let e8:=fun(m:List Int) (s x1:Int)=>e3 m/\(e4 m/\br (f m))/\True/\(c6/\c7)/\(((∀(i:Nat),i<e5 m->R)/\ ∀(i:Nat),i<1->R)/\br (c8 m)
  /\br c9)/\ab 2 (((True/\ ∀(i:Nat),i<e6 m->R)/\br (T m))/\ab 2 ((decide (zv true (T m)<0)=decide (y s x1<0)/\(e7 m=(dz (y s x1)).length/\
  ∀(i:Nat),i<e7 m->(dz (zv true (T m))).getD i 0=(dz (y s x1)).getD i 0/\True)/\True)/\True))
 let e9:=fun(m:List Int) (s x1:Int)=>e3 m/\((True/\e4 m)/\br (f m))/\ab 2 ((decide (zv (k s) (f m)<0)=decide (y s x1<0)/\((dz (zv (k s) (f
  m))).length=(dz (y s x1)).length/\ ∀(i:Nat),i<(dz (zv (k s) (f m))).length->(dz (zv (k s) (f m))).getD i 0=(dz (y s x1)).getD i 0/\True)/\True)/\True)
 let f0:=fun(m s:Int) (x1:List Int)=>k m=false->ab 2 (e9 x1 m s)
 let f1:=fun(m s:Int) (x1:Bool) (y1:List Int)=>(k m=true->True/\(x1=true->e8 y1 m s)/\(x1=false->True/\e9 y1 m s))/\f0 m s y1
 let f2:=fun(m s:Int) (x1:Bool)=>(dB m (B s) (M s) (g s) []/\ab (5:Nat) (t m/\v m/\p s/\w s/\x1=x1/\True/\(x/\x)/\p s/\c3)/\G m/\H m
  /\J/\K/\x/\c4=c4/\True)/\ ∀(n_3:Int) (l:List Int),dB m (B s) (M s) n_3 l->True/\(decide (n_3<d m)=true->((0:Int)<=n_3/\n_3<d m)/\ab
  (2:Nat) ((decide (c n_3<d m)=true->((0:Int)<=c n_3/\c n_3<d m)/\(0:Int)<=(32:Int)/\True/\c5 s/\c6/\c7/\d5 l/\ab (2:Nat) (dB m (B
  s) (M s) (c n_3) (O l m n_3 s)/\d9 m n_3/\ab (5:Nat) (t m/\v m/\p s/\w s/\x1=x1/\True/\(x/\e l=(O l m n_3 s).length)/\sm (c n_3)/\c3)/\G m/\H
  m/\J/\K/\P=P/\((e l=(O l m n_3 s).length/\e0/\ ∀(i:Nat),i<e l->(if N i l=true then l.getD i r else d8 m n_3 s)=(O l m n_3 s).getD i r/\True)
  /\True)/\True))/\(decide (c n_3<d m)=false->c5 s/\c6/\c7/\d5 l/\ab (2:Nat) (dB m (B s) (M s) (c n_3) (Q l m n_3 s)/\d9 m n_3/\ab (5:Nat) (t
  m/\v m/\p s/\w s/\x1=x1/\True/\(x/\e l=(Q l m n_3 s).length)/\sm (c n_3)/\c3)/\G m/\H m/\J/\K/\P=P/\((e l=(Q l m n_3 s).length/\e0/\ ∀(i
  :Nat),i<e l->(if N i l=true then l.getD i r else e1 m n_3 s)=(Q l m n_3 s).getD i r/\True)/\True)/\True))))/\(decide (n_3<d m)=false->(decide (g
  s<d m)=true->((0:Int)<=g s/\g s<d m)/\c5 s/\True/\(e2 m s=true->True/\(k m=true->True/\e8 l m s)/\f0 m s l)/\(e2 m s=false->f1 m s x1
  l))/\(decide (g s<d m)=false->True/\f1 m s x1 l))
 ab (2:Nat) ((aj.ak (SV.bool (decide (z<(0:Int)))::d0 z::C)/\fit (zz z))/\True/\d1/\d1/\ab (3:Nat) ((gC z (D n) (0:Int) false/\ab
  (5:Nat) (t z/\v z/\p n/\w n/\false=false/\sm (0:Int)/\c1)/\c2 z)/\ ∀(n_1:Int) (n_2:Bool),gC z (D n) n_1 n_2->(decide (n_1<g n)=true
  ->True/\(decide (n_1<d z)=true->(n_2=true->ab (2:Nat) (gC z (D n) (c n_1) true/\(n-c n_1).toNat<(n-n_1).toNat/\ab (5:Nat) (t z/\v z
  /\p n/\w n/\L/\sm (c n_1)/\c1)/\c2 z))/\(n_2=false->((0:Int)<=n_1/\n_1<d z)/\ab (2:Nat) (gC z (D n) (c n_1) (d4 z n_1)/\(n-c n_1).toNat
  <(n-n_1).toNat/\ab (5:Nat) (t z/\v z/\p n/\w n/\sm (d4 z n_1)/\sm (c n_1)/\c1)/\c2 z)))/\(decide (n_1<d z)=false->ab (2:Nat) (f2 z n n_2)))
  /\(decide (n_1<g n)=false->ab (3:Nat) (f2 z n n_2)))))=SN z n:=by kernel_rfl
theorem bl_dz {z:Int} (h:0<(dz z).length):bl z=32*((dz z).length-1:Int)+bl ((dz z).getD ((dz z).length-1) 0)/\0<=bl z:=by
 have hd:=bH (bI z).1 ((dz z).length-1);have hne:=IG h;have hv:=iB z;have e1:=fv (dz z) ((dz z).length-1);rw [show(dz z).length-1+1=(dz z).length by omega,Jz (J1 _),hv]at e1;have e2:=cm (bI z).1 ((dz z).length-1);generalize (dz z).getD ((dz z).length-1) 0=t at*
 generalize nv ((dz z).take ((dz z).length-1))=lo at*
 have e3:(z.natAbs:Int)/pw ((dz z).length-1)=t:=by
  rw [e1,X3 _ _ (uE _),Qq e2.1 e2.2];omega
 rw [fE]at e3;have e4:z.natAbs/2^(32*((dz z).length-1))=t.natAbs:=by
  have:(((z.natAbs/2^(32*((dz z).length-1)):Nat)):Int)=t:=by simpa using e3
  omega
 unfold bl;rw [zZ (k:=32*((dz z).length-1)) (by rw [e4];omega),e4];omega
theorem aag :aH Tryz.prog WB:=av k381 hm Tryz.func284 (by kernel_rfl) (by kernel_rfl) sZ.ok (by kernel_rfl) (fun _=>[]) fun a hp=>by
 have h:TM a:=by
  rw [<-LL];simp only [aA];generalize a=z at*
  try dsimp only at hp
  have h1:=dm hp;simp [-List.getD_eq_getElem?_getD,hp];refine⟨fun e=> ?_,fun e=> ?_⟩
  . rw [(oz (z:=z)).1 (by rw [e];rfl)];unfold bl wL;rfl
  . have hl:0<(dz z).length:=Xa.2 e;have hd:=bH (bI z).1 ((dz z).length-1);obtain⟨b1,b2⟩:=bl_dz hl;have hb:=My hd.1 hd.2;rw [aG (n:=((dz z).length:Int)-1) (by omega) (by omega),show(((dz z).length:Int)-1).toNat=(dz z).length-1 by omega,aG (n:=32*(((dz z).length:Int)-1)) (by omega) (by omega),aG (by omega) (by omega)];exact⟨by omega,by unfold pq;exact hd,by omega⟩
 exact h
theorem quo_val {a b:List Int} (h:tY a b):br (qL a b)/\br (rL a b)/\nv (qL a b)=nv a/nv b/\nv (rL a b)=nv a%nv b:=by
 obtain⟨h1,h2,h3⟩:=vW h;have ca:=jV h1;have cb:=jV h2;have la:=iC h1;have lb:=iC h2;have va:=fV ca.1;have vb:=fV cb.1;have m0:=Jm (nv a) (show nv b≠0 by omega);have m1:=Jo (nv a) h3;have d0:0<=nv a/nv b:=Kb va.1 (by omega);unfold qL rL
 by_cases c1:nv a<nv b
 . rw [if_pos c1,if_pos c1];exact⟨ER kP (by simp),ER ca.1 (by omega),by rw [Qq va.1 c1];simp [nv],by rw [Qr va.1 c1]⟩
 rw [if_neg c1,if_neg c1]
 by_cases c2:b.length=1
 . rw [if_pos c2,if_pos c2];obtain⟨d,rfl⟩: ∃d,b=[d]:=by
    match b,c2 with
    |[d],_=>exact⟨d,rfl⟩
   have e:nv [d]=d:=by simp [nv]
   rw [e]at m0 m1 d0 h3 c1⊢;have hd:=(eP.1 cb.1).1;simp only [List.getD_cons_zero];unfold vq;have hle:nv a/d<=nv a:=Z3 d va.1;refine⟨ER (mo _ _) (by simp;omega),ER (eP.2 ⟨⟨m0,by have:=hd.2;omega⟩,kP⟩) (by simp),wc d0 (by omega),by simp [nv]⟩
 . rw [if_neg c2,if_neg c2];have c:=SR h (by omega) c2;have hle:=c.le;have hn:=c.n2;have cp:=nq cb (by intro e;rw [e]at hn;simp at hn);refine⟨ER (mo _ _) (by simp;omega),ER (mo _ _) (by simp;omega),wc d0 ?_,wc m0 (by omega)⟩;rw [Kl h3];have e1:pw (a.length-b.length+1)*pw (b.length-1)<=pw (a.length-b.length+1)*nv b:=Jt cp (by have:=aE (a.length-b.length+1);omega);rw [<-gG,show a.length-b.length+1+(b.length-1)=a.length by omega]at e1
   omega
theorem Bc {z:Int} {k:Nat} (h:(z.natAbs:Int)<pw k):(dz z).length<=k:=by
 rcases Kv k (dz z).length with hlt|hge
 . have h1:=nq (bI z) (by intro e;rw [e]at hlt;simp at hlt);have h2:=gT (a:=k) (b:=(dz z).length-1) (by omega);rw [iB]at h1;omega
 . exact hge
theorem vM {z:Int} {k:Nat} (h:(dz z).length<=k):(z.natAbs:Int)<pw k:=by
 have h1:=fV (bI z).1;have h2:=gT h;rw [iB]at h1;omega
theorem rl {x y:Int} (h:fit y) (hle:x.natAbs<=y.natAbs):fit x:=by
 have h1:=dm h;have h2:=vM h1;unfold fit;exact Bc (by omega)
theorem k340 :aH Tryz.prog U9:=av aag hm Tryz.func340 (by kernel_rfl) (by kernel_rfl) DK.ok (by kernel_rfl) (fun _=>[]) fun a hp=>by
 have h:SD a.1 a.2:=by
  rw [<-PK];simp only [aA];obtain⟨x,y⟩:=a
  try dsimp only at hp
  obtain⟨h1,h2,h3⟩:=hp;have l1:=dm h1;have l2:=dm h2;have vx:=iB x;have vy:=iB y;have hq:tY (dz x) (dz y):=by unfold tY;exact⟨dzS h1,dzS h2,by omega⟩
  obtain⟨q1,q2,q3,q4⟩:=quo_val hq;simp [-List.getD_eq_getElem?_getD,h1,h2,h3,hq,q1,q2];have eq:zv (!decide (x<0)==decide (y<0)) (qL (dz x) (dz y))=x.tdiv y:=by
   unfold zv;rw [q3,vx,vy];have key: ∀m n:Nat,((m:Int)/(n:Int))=(m:Int).tdiv n:=fun m n=>(Ky (by omega)).symm
   rw [key];rcases Z6 x with e1|e1<;>rcases Z6 y with e2|e2
   . have:(!decide (x<0)==decide (y<0))=false:=by simp;omega
     rw [this,<-e1,<-e2];simp
   . have:(!decide (x<0)==decide (y<0))=true:=by simp;omega
     rw [this,if_pos rfl,<-e1,<-Int.tdiv_neg,<-e2]
   . by_cases h0:x=0
     . subst h0;simp
     have:(!decide (x<0)==decide (y<0))=true:=by simp;omega
     rw [this,if_pos rfl,<-e2,<-Int.neg_tdiv,<-e1]
   . by_cases h0:x=0
     . subst h0;simp
     have:(!decide (x<0)==decide (y<0))=false:=by simp;omega
     have e3:(x.natAbs:Int)= -x:=by omega
     have e4:(y.natAbs:Int)= -y:=by omega
     rw [this,e3,e4,Int.neg_tdiv_neg];simp
  have er:zv (decide (x<0)) (rL (dz x) (dz y))=x.tmod y:=by
   unfold zv;rw [q4,vx,vy];have key: ∀m n:Nat,((m:Int)%(n:Int))=(m:Int).tmod n:=fun m n=>(X9 (by omega)).symm
   rw [key];have hy:((x.natAbs:Int)).tmod (y.natAbs:Int)=((x.natAbs:Int)).tmod y:=by
    rcases Z6 y with e2|e2
    . rw [<-e2]
    . have e4:(y.natAbs:Int)= -y:=by omega
      rw [e4,Int.tmod_neg]
   rw [hy];rcases Z6 x with e1|e1
   . have:decide (x<0)=false:=by simp;omega
     rw [this,<-e1];simp
   . by_cases h0:x=0
     . subst h0;simp
     have:decide (x<0)=true:=by simp;omega
     have e3:(x.natAbs:Int)= -x:=by omega
     rw [this,if_pos rfl,e3,Int.neg_tmod];omega
  rw [eq,er];simp
 exact h
theorem XB :aH Tryz.prog VP:=av k340 hm Tryz.func362 (by kernel_rfl) (by kernel_rfl) DK.ok (by kernel_rfl) (fun a=>a362 a.1 a.2) fun a hp=>by
 have h:SM a.1 a.2:=by
  rw [<-NQ];simp only [aA];obtain⟨x,y⟩:=a
  try dsimp only at hp
  simp [-List.getD_eq_getElem?_getD,hp];refine⟨by unfold yA;exact⟨by omega,by omega,rl hp.1 (by simp),rl hp.2 (by simp),by simp [Int.gcd]⟩,fun a b hinv=> ?_⟩;unfold yA at hinv⊢;obtain⟨h1,h2,h3,h4,h5⟩:=hinv;have step:0<(dz b).length->(fit a/\fit b/\ ¬b=0)/\(0<=b/\0<=a.tmod b/\fit b/\fit (a.tmod b)/\Int.gcd b (a.tmod b)=Int.gcd x y)/\max (a.tmod b) 0<b:=by
   intro hl;have hb:b≠0:=by rintro rfl;simp [gz]at hl
   rw [X9 h1];have m0:=Jm a hb;have m1:=Jo a (show 0<b by omega);refine⟨⟨h3,h4,hb⟩,⟨h2,m0,h4,rl h4 (by omega),?_⟩,by omega⟩;rw [<-h5];obtain⟨p,rfl⟩:=Q8 h1;obtain⟨q,rfl⟩:=Q8 h2;rw [<-Int.natCast_emod,Yh,Yh,Nat.gcd_comm p q,Nat.gcd_rec q p,Nat.gcd_comm]
  refine⟨fun hl=>⟨fun ha=>⟨fun hb=> ?_,fun _=>step hl⟩,fun _=>step hl⟩,fun e=> ?_⟩
  . have pa:=vM (z:=a) (k:=2) (by omega);have pb:=vM (z:=b) (k:=2) (by omega);have p2:pw 2=18446744073709551616:=by rw [fE];rfl
    rw [p2]at pa pb;have eg:a.natAbs.gcd b.natAbs=x.gcd y:=h5;have hbp:0<b:=by
     rcases Qe 0 b with h|h
     . exact h
     . have:b=0:=by omega
       subst this;simp [gz]at hl
    have hle:a.natAbs.gcd b.natAbs<=b.natAbs:=Nat.gcd_le_right _ (by omega);have gu:jW (a.natAbs.gcd b.natAbs:Int):=by unfold jW;omega
    rw [eg]at gu⊢;refine⟨by unfold wz;omega,by unfold wz;omega,⟨by unfold jW;omega,by unfold jW;omega⟩,gu,by simp⟩
  . have hb:b=0:=oz.1 (by rw [e];rfl);subst hb;rw [Z9]at h5;have:a=((x.gcd y:Nat):Int):=by omega
    rw [this];simp
 exact h
theorem sb {x:Int} {r:Nat} (hx:GD x) (hr:r<32):bits .and .u32 x (V (V (2^min r 32)-1))=x%2^r:=by
 have p1:=two_pos r;have h1:=HS (show r<=31 by omega);rw [show min r 32=r by omega,Aj (n:=(2:Int)^r) (by omega) (by omega),Aj (by omega) (by omega)];obtain⟨x,rfl⟩:=Q8 hx.1;have hx2:=hx.2;have e0:((2:Int)^r-1)=((2^r-1:Nat):Int):=by
  have:(1:Nat)<=2^r:=Nat.one_le_two_pow;rw [Int.ofNat_sub this];simp
 have e1:bits .and .u32 (x:Int) ((2^r-1:Nat):Int)=IntKind.u32.wrap ((BitVec.ofInt 32 (x:Int)&&&BitVec.ofInt 32 ((2^r-1:Nat):Int)).toNat:Int):=rfl;have h3:(2:Nat)^r<=2^31:=Xv (by omega) (by omega);have e2:(BitVec.ofInt 32 (x:Int)&&&BitVec.ofInt 32 ((2^r-1:Nat):Int)).toNat=x%2^r:=by
  rw [BitVec.toNat_and,Xu,Xu];rw [show(((x:Int)%((2^32:Nat):Int)).toNat)=x by omega,show((((2^r-1:Nat):Int)%((2^32:Nat):Int)).toNat)=2^r-1 by omega];exact Nat.and_two_pow_sub_one_eq_mod x r
 have h4:x%2^r<2^r:=Ki _ (Z4 (by omega));rw [e0,e1,e2,T7,Aj (by omega) (by omega)];simp
theorem Ri (Z:Int) (w r:Nat):Z%2^(32*w+r)=Z%pw w+pw w*(Z/pw w%2^r):=by
 have p1:=two_pos r;have p2:=aE w;have h1:=X2 Z (pw w*2^r);have h2:=X2 Z (pw w);have h3:=X2 (Z/pw w) (2^r);rw [Int.pow_add,<-fE,h1,h2,h3,Qd (by omega),Qm,Jk];omega
theorem uO {z w i:Int} {lost:Bool} (h:gC z w i lost) (hi:i<w):0<=i/\gC z w (i+1) (lost||((dz z).getD i.toNat 0 !=0)):=by
 unfold gC at h⊢;obtain⟨h1,h2,h3⟩:=h;rw [show(i+1).toNat=i.toNat+1 by omega,fv,h3];have d:=bH (bI z).1 i.toNat;have hb:=cm (bI z).1 i.toNat;have hp:=aE i.toNat;refine⟨h1,by omega,by omega,?_⟩
 by_cases c1:(dz z).getD i.toNat 0=0
 . rw [c1];simp
 . have:0<pw i.toNat*(dz z).getD i.toNat 0:=Je hp (by omega);have e1: ¬nv ((dz z).take i.toNat)+pw i.toNat*(dz z).getD i.toNat 0=0:=by omega
   simp only [e1,decide_false,Bool.not_false];simp [-List.getD_eq_getElem?_getD,c1]
theorem l8 {z i:Int} {w:Nat} {lost:Bool} (h:gC z w i lost) (hi:(w:Int)<=i\/((dz z).length:Int)<=i):lost= !decide (nv ((dz z).take w)=0):=by
 unfold gC at h;obtain⟨h1,h2,h3⟩:=h;rw [h3];have:nv ((dz z).take i.toNat)=nv ((dz z).take w):=by
  rcases Qe i w with hlt|hge
  . have:((dz z).length:Int)<=i:=by omega
    rw [Jz (by omega),Jz (by omega)]
  . rw [show i.toNat=w by omega]
 rw [this]
theorem F1 (z:Int) (w r:Nat):dB z w r w []:=by
 unfold dB;simp [dg]
theorem lD {z:Int} {w r:Nat} {i:Int} {out:List Int} (h:dB z w r i out):out.length=i.toNat-w/\(w:Int)<=i/\(i<=(dz z).length\/i=w):=by
 unfold dB at h;obtain⟨h1,h2,rfl⟩:=h;exact⟨by simp,h1,h2⟩
theorem Na (a:Int) {b c:Int} (hb:0<=b) (hc:0<=c):a/b/c=a/c/b:=by
 rw [Qd hb,Qd hc,J6]
theorem l5 {z:Int} {w r:Nat} {i v:Int} {out:List Int} (hr:r<32) (h:dB z w r i out) (hi:i<(dz z).length) (hv:v=((dz z).getD i.toNat 0+4294967296*(dz z).getD (i.toNat+1) 0)/2^r):dB z w r (i+1) (out++[V v]):=by
 unfold dB at h⊢;obtain⟨h1,h2,h3⟩:=h;refine⟨by omega,by omega,?_⟩;rw [h3,show(i+1).toNat-w=(i.toNat-w)+1 by omega,re]
 congr 2
 have p1:=two_pos r;have hB:(4294967296:Int)=2^r*2^(32-r):=by rw [<-Int.pow_add,show r+(32-r)=32 by omega];rfl
 have e1:(z.natAbs:Int)/pw w/2^r/pw (i.toNat-w)=(z.natAbs:Int)/pw i.toNat/2^r:=by
  have q1:=aE (i.toNat-w);have q2:=aE w;rw [Na _ (by omega) (by omega),Qd (y:=pw w) (by omega),<-gG,show w+(i.toNat-w)=i.toNat by omega]
 have dgt: ∀k,(dz z).getD k 0=(z.natAbs:Int)/pw k%4294967296:=by
  intro k
  by_cases hk:k<(dz z).length
  . have e:=PD (bI z).1;rw [iB]at e;rw [<-tA (k:=(dz z).length) _ hk,e]
  . rw [J0,J7 (by omega)];have hb:=fV (bI z).1;have hp:=gT (a:=(dz z).length) (b:=k) (by omega);rw [iB]at hb;rw [Qq (by omega) (by omega)];rfl
 rw [e1,hv,dgt,dgt,iA,<-cq];generalize (z.natAbs:Int)/pw i.toNat=X;have e2:X=(X%4294967296+4294967296*(X/4294967296%4294967296))+2^r*(4294967296*(2^(32-r)*(X/4294967296/4294967296))):=by
  have:(2:Int)^r*(4294967296*(2^(32-r)*(X/4294967296/4294967296)))=4294967296*(4294967296*(X/4294967296/4294967296)):=by
   rw [X7,<-Int.mul_assoc (2^r),<-hB]
  rw [this];omega
 conv=>rhs;rw [e2]
 rw [X3 _ _ (by omega),Yg]
theorem XP (z:Int) (n:Nat):(z.natAbs:Int)/pw (n/32)/2^(n%32)=(z.natAbs:Int)/2^n:=by
 rw [Qd (by have:=aE (n/32);omega),fE,<-Int.pow_add,show 32*(n/32)+n%32=n by omega]
theorem yH {z:Int} {n:Nat} {i:Int} {out:List Int} (hz:fit z) (h:dB z (n/32) (n%32) i out) (hi:((dz z).length:Int)<=i):br out/\nv out=(z.natAbs:Int)/2^n:=by
 have hl:=dm hz;have hb:=fV (bI z).1;rw [iB]at hb;obtain⟨g1,g2,g3⟩:=lD h;unfold dB at h;obtain⟨h1,h2,h3⟩:=h;have p1:=two_pos (n%32);have hq:0<=(z.natAbs:Int)/pw (n/32):=Kb (by omega) (by have:=aE (n/32);omega);have hlt:(z.natAbs:Int)/pw (n/32)<pw (i.toNat-n/32):=by
  rw [Kl (aE _),<-gG];have:=gT (a:=(dz z).length) (b:=i.toNat-n/32+n/32) (by omega);omega
 have hle:=Z3 (2^(n%32)) hq;refine⟨ER (by rw [h3];exact mo _ _) (by omega),?_⟩;rw [h3,wc (Kb hq (by omega)) (by omega),XP]
theorem Ex {z:Int} {n:Nat}:(0<=z->z/2^n=(z.natAbs:Int)/2^n)/\(z<0->z/2^n=if(z.natAbs:Int)%2^n=0 then-((z.natAbs:Int)/2^n)else-((z.natAbs:Int)/2^n+1)):=by
 have hp:=two_pos n;refine⟨fun h=>by rw [Int.natAbs_of_nonneg h],fun h=> ?_⟩;have e:z= -(z.natAbs:Int):=by omega
 have e2:=Qs (z.natAbs:Int) (2^n);have m0:=Jm (z.natAbs:Int) (show(2:Int)^n≠0 by omega);have m1:=Jo (z.natAbs:Int) hp;generalize (z.natAbs:Int)=Z at*
 subst e;split
 . rename_i h0;rw [h0,X6]at e2;have: -Z=0+2^n*(-(Z/2^n)):=by rw [Int.mul_neg,e2];omega
   conv=>lhs;rw [this]
   rw [X3 _ _ (by omega)];simp
 . rename_i h0;have: -Z=(2^n-Z%2^n)+2^n*(-(Z/2^n+1)):=by rw [Int.mul_neg,Kg,Ke];omega
   conv=>lhs;rw [this]
   rw [X3 _ _ (by omega),Qq (by omega) (by omega)];omega
theorem Gr {z:Int} {n:Nat}:(z.natAbs:Int)%2^n=0↔(nv ((dz z).take (n/32))=0/\(n/32<(dz z).length->(dz z).getD (n/32) 0%2^(n%32)=0)):=by
 have hd:=(bI z).1;have p1:=two_pos (n%32);have e:=Ri (z.natAbs:Int) (n/32) (n%32);rw [show 32*(n/32)+n%32=n by omega]at e;have hv:=iB z;have e1:(z.natAbs:Int)%pw (n/32)=nv ((dz z).take (n/32)):=by
  rw [<-hv];have:=T5 (n/32) (nv (dz z))
  by_cases hk:n/32<=(dz z).length
  . rw [<-this,<-Il (k:=(dz z).length) _ hk,PD hd]
  . rw [Jz (by omega)];have hb:=fV hd;have:=gT (a:=(dz z).length) (b:=n/32) (by omega);exact Qr hb.1 (by omega)
 have e2:(z.natAbs:Int)/pw (n/32)%2^(n%32)=(dz z).getD (n/32) 0%2^(n%32):=by
  have:(dz z).getD (n/32) 0=(z.natAbs:Int)/pw (n/32)%4294967296:=by
   by_cases hk:n/32<(dz z).length
   . have e:=PD hd;rw [hv]at e;rw [<-tA (k:=(dz z).length) _ hk,e]
   . rw [J0,J7 (by omega)];have hb:=fV hd;have hp:=gT (a:=(dz z).length) (b:=n/32) (by omega);rw [hv]at hb;rw [Qq (by omega) (by omega)];rfl
  rw [this,Int.emod_emod_of_dvd];exact⟨2^(32-n%32),by rw [<-Int.pow_add,show n%32+(32-n%32)=32 by omega];rfl⟩
 rw [e,e1,e2];have hb:=cm hd (n/32);have m0:=Jm ((dz z).getD (n/32) 0) (show(2:Int)^(n%32)≠0 by omega);have hp:=aE (n/32);have m2:0<=pw (n/32)*((dz z).getD (n/32) 0%2^(n%32)):=Ja (by omega) m0;constructor
 . intro h;refine⟨by omega,fun _=> ?_⟩;rcases Qe 0 ((dz z).getD (n/32) 0%2^(n%32))with h1|h1
   . have:=Je hp h1;omega
   . omega
 . rintro⟨h1,h2⟩
   by_cases hk:n/32<(dz z).length
   . rw [h1,h2 hk];simp
   . rw [h1,J0,J7 (by omega)];simp
theorem IU {z:Int} {n:Nat} {out:List Int} (hz:z<0) (hf:br out) (hl:out.length<=1000000) (hv:nv out=(z.natAbs:Int)/2^n) (h: ¬(z.natAbs:Int)%2^n=0):
 br (ah (aF .u32) (min (tl out) out.length) fun i=>[SV.int .u32 ((List.take (tl out) out).getD i 0)])/\br [1]/\br (cf (ah (aF .u32) (min (tl out) out.length) fun i=>[SV.int .u32 ((List.take (tl out) out).getD i 0)]) [1])/\zv true (cf (ah (aF .u32) (min (tl out) out.length) fun i=>[SV.int .u32 ((List.take (tl out) out).getD i 0)]) [1])=z/2^n:=by
 have hD:=qv hf;have e1:ah (aF .u32) (min (tl out) out.length) (fun i=>[SV.int .u32 ((List.take (tl out) out).getD i 0)])=out.take (tl out):=kE (by simp);have d1:cO [1]:=eP.2 ⟨⟨by omega,by omega⟩,kP⟩;rw [e1];refine⟨ER (mN hD _) (by simp;omega),ER d1 (by simp),ER (OF _ _) (by rw [zD];simp;omega),?_⟩;unfold zv;rw [Mf (mN hD _) d1,xH,hv,(Ex).2 hz,if_neg h];simp [nv]
theorem Ni {z:Int} {n:Nat} {out:List Int} (hv:nv out=(z.natAbs:Int)/2^n) (h:z<0->(z.natAbs:Int)%2^n=0):zv (decide (z<0)) out=z/2^n:=by
 unfold zv;rw [hv]
 by_cases hz:z<0
 . rw [(Ex).2 hz,if_pos (h hz),if_pos (by simpa using hz)]
 . rw [if_neg (by simpa using hz)];exact((Ex).1 (by omega)).symm
theorem shrF {z n:Int} (hz:fit z) (hn:0<=n/\n<=32000000) (hlost:nv ((dz z).take (n.toNat/32))=0):
 dB z (n.toNat/32) (n.toNat%32) ((n.toNat/32:Nat):Int) []/\ ∀(n_3:Int) (l:List Int),dB z (n.toNat/32) (n.toNat%32) n_3 l->(n_3
  < ↑(dz z).length->(0<=n_3/\n_3< ↑(dz z).length)/\(W (n_3+1)< ↑(dz z).length->(0<=W (n_3+1)/\W (n_3+1)< ↑(dz z).length)/\0<=((n.toNat
  %32:Nat):Int)/\(l.length<=140737488355327/\(l.length+1)*4<=140737488355328)/\dB z (n.toNat/32) (n.toNat%32) (W (n_3+1)) (l++[V
  (bits BinOp.or IntKind.u64 (U ((dz z).getD n_3.toNat 0)) (U (U ((dz z).getD (W (n_3+1)).toNat 0)*4294967296))/2^min (n.toNat%32) 64)])/\max
  (↑(dz z).length-W (n_3+1)) 0< ↑(dz z).length-n_3/\ ∀(i:Nat),i<l.length+1->(if i<l.length then l.getD i 0 else V (bits BinOp.or IntKind.u64
  (U ((dz z).getD n_3.toNat 0)) (U (U ((dz z).getD (W (n_3+1)).toNat 0)*4294967296))/2^min (n.toNat%32) 64))=(l++[V (bits BinOp.or IntKind.u64
  (U ((dz z).getD n_3.toNat 0)) (U (U ((dz z).getD (W (n_3+1)).toNat 0)*4294967296))/2^min (n.toNat%32) 64)]).getD i 0)/\(↑(dz z).length<=W (n_3
  +1)->0<=((n.toNat%32:Nat):Int)/\(l.length<=140737488355327/\(l.length+1)*4<=140737488355328)/\dB z (n.toNat/32) (n.toNat%32)
  (W (n_3+1)) (l++[V (U ((dz z).getD n_3.toNat 0)/2^min (n.toNat%32) 64)])/\max (↑(dz z).length-W (n_3+1)) 0< ↑(dz z).length-n_3/\ ∀(i
  :Nat),i<l.length+1->(if i<l.length then l.getD i 0 else V (U ((dz z).getD n_3.toNat 0)/2^min (n.toNat%32) 64))=(l++[V (U ((dz z).getD
  n_3.toNat 0)/2^min (n.toNat%32) 64)]).getD i 0))/\(↑(dz z).length<=n_3->(((n.toNat/32:Nat):Int)< ↑(dz z).length->(0<=((n.toNat/32:
  Nat):Int)/\((n.toNat/32:Nat):Int)< ↑(dz z).length)/\0<=((n.toNat%32:Nat):Int)/\(¬bits BinOp.and IntKind.u32 ((dz z).getD (n.toNat/
  32) 0) (V (V (2^min (n.toNat%32) 32)-1))=0->(z<0->br l/\(br (ah (aF IntKind.u32) (min (tl l) l.length) fun i=>[SV.int IntKind.u32
  ((List.take (tl l) l).getD i 0)])/\br [1])/\br (cf (ah (aF IntKind.u32) (min (tl l) l.length) fun i=>[SV.int IntKind.u32 ((List.take (tl
  l) l).getD i 0)]) [1])/\(zv true (cf (ah (aF IntKind.u32) (min (tl l) l.length) fun i=>[SV.int IntKind.u32 ((List.take (tl l) l).getD i 0)]) [1])
  <0↔z/2^n.toNat<0)/\(dz (zv true (cf (ah (aF IntKind.u32) (min (tl l) l.length) fun i=>[SV.int IntKind.u32 ((List.take (tl l) l).getD
  i 0)]) [1]))).length=(dz (z/2^n.toNat)).length/\ ∀(i:Nat),i<(dz (zv true (cf (ah (aF IntKind.u32) (min (tl l) l.length) fun i=>[SV.int
  IntKind.u32 ((List.take (tl l) l).getD i 0)]) [1]))).length->(dz (zv true (cf (ah (aF IntKind.u32) (min (tl l) l.length) fun i=>[SV.int IntKind.u32
  ((List.take (tl l) l).getD i 0)]) [1]))).getD i 0=(dz (z/2^n.toNat)).getD i 0)/\(0<=z->br l/\(zv (decide (z<0)) l<0↔z/2^n.toNat<
  0)/\(dz (zv (decide (z<0)) l)).length=(dz (z/2^n.toNat)).length/\ ∀(i:Nat),i<(dz (zv (decide (z<0)) l)).length->(dz (zv (decide (z<
  0)) l)).getD i 0=(dz (z/2^n.toNat)).getD i 0))/\(bits BinOp.and IntKind.u32 ((dz z).getD (n.toNat/32) 0) (V (V (2^min (n.toNat%32) 32)-1))
  =0->(z<0->br l/\(zv (decide (z<0)) l<0↔z/2^n.toNat<0)/\(dz (zv (decide (z<0)) l)).length=(dz (z/2^n.toNat)).length/\ ∀(i
  :Nat),i<(dz (zv (decide (z<0)) l)).length->(dz (zv (decide (z<0)) l)).getD i 0=(dz (z/2^n.toNat)).getD i 0)/\(0<=z->br l/\(zv (decide
  (z<0)) l<0↔z/2^n.toNat<0)/\(dz (zv (decide (z<0)) l)).length=(dz (z/2^n.toNat)).length/\ ∀(i:Nat),i<(dz (zv (decide (z<0))
  l)).length->(dz (zv (decide (z<0)) l)).getD i 0=(dz (z/2^n.toNat)).getD i 0)))/\(↑(dz z).length<=((n.toNat/32:Nat):Int)->(z<0->br
  l/\(zv (decide (z<0)) l<0↔z/2^n.toNat<0)/\(dz (zv (decide (z<0)) l)).length=(dz (z/2^n.toNat)).length/\ ∀(i:Nat),i<(dz (zv
  (decide (z<0)) l)).length->(dz (zv (decide (z<0)) l)).getD i 0=(dz (z/2^n.toNat)).getD i 0)/\(0<=z->br l/\(zv (decide (z<0)) l<0↔
  z/2^n.toNat<0)/\(dz (zv (decide (z<0)) l)).length=(dz (z/2^n.toNat)).length/\ ∀(i:Nat),i<(dz (zv (decide (z<0)) l)).length->(dz
  (zv (decide (z<0)) l)).getD i 0=(dz (z/2^n.toNat)).getD i 0))):=by
 have hl:=dm hz;have hr:n.toNat%32<32:=by omega
 have hd:=(bI z).1;refine⟨F1 z _ _,fun i out h=>⟨fun hi=> ?_,fun hi=> ?_⟩⟩
 . obtain⟨g1,g2,g3⟩:=lD h;have d0:=bH hd i.toNat;have d1:=bH hd (i.toNat+1);rw [aG (n:=i+1) (by omega) (by omega),show(i+1).toNat=i.toNat+1 by omega,ct (n:=(dz z).getD i.toNat 0) (by omega) (by omega),ct (n:=(dz z).getD (i.toNat+1) 0) (by omega) (by omega),ct (n:=(dz z).getD (i.toNat+1) 0*4294967296) (by omega) (by omega),show min (n.toNat%32) 64=n.toNat%32 by omega];have ho:=yZ (u:=(dz z).getD i.toNat 0) (y:=(dz z).getD (i.toNat+1) 0) (r:=32) d0.1 (by have:=d0.2;omega) d1.1 (by have:=d0.2;have:=d1.2;omega)
   rw [show(2:Int)^32=4294967296 from rfl]at ho;rw [J6 ((dz z).getD (i.toNat+1) 0),ho];refine⟨by omega,fun hk=> ?_,fun hk=> ?_⟩
   . have hst:=l5 hr h hi rfl
     and_intros<;>first|omega|assumption|exact fun j hj=>(gD (by omega)).symm
   . have e0:(dz z).getD (i.toNat+1) 0=0:=by rw [J0,J7 (by omega)];rfl
     have hst:=l5 (v:=(dz z).getD i.toNat 0/2^(n.toNat%32)) hr h hi (by rw [e0];simp)
     and_intros<;>first|omega|assumption|exact fun j hj=>(gD (by omega)).symm
 . obtain⟨f1,f2⟩:=yH hz h hi;obtain⟨g1,g2,g3⟩:=lD h;have hol:out.length<=1000000:=by omega
   have hls:=Gr (z:=z) (n:=n.toNat);have hyes:=fun(h1:z<0) (h2: ¬(z.natAbs:Int)%2^n.toNat=0)=>IU h1 f1 hol f2 h2
   have hno:=fun(h2:z<0->(z.natAbs:Int)%2^n.toNat=0)=>Ni f2 h2
   have fy:z<0-> ¬(z.natAbs:Int)%2^n.toNat=0->_:=fun h1 h2=>(⟨f1,⟨(hyes h1 h2).1,(hyes h1 h2).2.1⟩,(hyes h1 h2).2.2.1,by rw [(hyes h1 h2).2.2.2],by rw [(hyes h1 h2).2.2.2],fun i hi=>by rw [(hyes h1 h2).2.2.2]⟩:br out/\(br (ah (aF IntKind.u32) (min (tl out) out.length) fun i=>[SV.int IntKind.u32 ((List.take (tl out) out).getD i 0)])/\br [1])/\br (cf (ah (aF IntKind.u32) (min (tl out) out.length) fun i=>[SV.int IntKind.u32 ((List.take (tl out) out).getD i 0)]) [1])/\(zv true (cf (ah (aF IntKind.u32) (min (tl out) out.length) fun i=>[SV.int IntKind.u32 ((List.take (tl out) out).getD i 0)]) [1])<0↔z/2^n.toNat<0)/\(dz (zv true (cf (ah (aF IntKind.u32) (min (tl out) out.length) fun i=>[SV.int IntKind.u32 ((List.take (tl out) out).getD i 0)]) [1]))).length=(dz (z/2^n.toNat)).length/\ ∀(i:Nat),i<(dz (zv true (cf (ah (aF IntKind.u32) (min (tl out) out.length) fun i=>[SV.int IntKind.u32 ((List.take (tl out) out).getD i 0)]) [1]))).length->(dz (zv true (cf (ah (aF IntKind.u32) (min (tl out) out.length) fun i=>[SV.int IntKind.u32 ((List.take (tl out) out).getD i 0)]) [1]))).getD i 0=(dz (z/2^n.toNat)).getD i 0)
   have fn:(z<0->(z.natAbs:Int)%2^n.toNat=0)->_:=fun h2=>(⟨f1,by rw [hno h2],by rw [hno h2],fun i hi=>by rw [hno h2]⟩:br out/\(zv (decide (z<0)) out<0↔z/2^n.toNat<0)/\(dz (zv (decide (z<0)) out)).length=(dz (z/2^n.toNat)).length/\ ∀(i:Nat),i<(dz (zv (decide (z<0)) out)).length->(dz (zv (decide (z<0)) out)).getD i 0=(dz (z/2^n.toNat)).getD i 0)
   rw [sb (bH hd (n.toNat/32)) hr];refine⟨fun hk=>⟨by omega,by omega,fun hb=>⟨fun h1=>fy h1 (fun h2=>hb ((hls.1 h2).2 (by omega))),fun h1=>fn (fun h=>by omega)⟩,fun hb=>⟨fun h1=>fn (fun _=>hls.2 ⟨hlost,fun _=>hb⟩),fun h1=>fn (fun h=>by omega)⟩⟩,fun hk=>⟨fun h1=>fn (fun _=>hls.2 ⟨hlost,fun h=>by omega⟩),fun h1=>fn (fun h=>by omega)⟩⟩
theorem ZH {z n:Int} (hz:fit z) (hn:0<=n/\n<=32000000) (hlost: ¬nv ((dz z).take (n.toNat/32))=0):
 dB z (n.toNat/32) (n.toNat%32) ((n.toNat/32:Nat):Int) []/\ ∀(n_3:Int) (l:List Int),dB z (n.toNat/32) (n.toNat%32) n_3 l->(n_3
  < ↑(dz z).length->(0<=n_3/\n_3< ↑(dz z).length)/\(W (n_3+1)< ↑(dz z).length->(0<=W (n_3+1)/\W (n_3+1)< ↑(dz z).length)/\0<=((n.toNat
  %32:Nat):Int)/\(l.length<=140737488355327/\(l.length+1)*4<=140737488355328)/\dB z (n.toNat/32) (n.toNat%32) (W (n_3+1)) (l++[V
  (bits BinOp.or IntKind.u64 (U ((dz z).getD n_3.toNat 0)) (U (U ((dz z).getD (W (n_3+1)).toNat 0)*4294967296))/2^min (n.toNat%32) 64)])/\max
  (↑(dz z).length-W (n_3+1)) 0< ↑(dz z).length-n_3/\ ∀(i:Nat),i<l.length+1->(if i<l.length then l.getD i 0 else V (bits BinOp.or IntKind.u64
  (U ((dz z).getD n_3.toNat 0)) (U (U ((dz z).getD (W (n_3+1)).toNat 0)*4294967296))/2^min (n.toNat%32) 64))=(l++[V (bits BinOp.or IntKind.u64
  (U ((dz z).getD n_3.toNat 0)) (U (U ((dz z).getD (W (n_3+1)).toNat 0)*4294967296))/2^min (n.toNat%32) 64)]).getD i 0)/\(↑(dz z).length<=W (n_3
  +1)->0<=((n.toNat%32:Nat):Int)/\(l.length<=140737488355327/\(l.length+1)*4<=140737488355328)/\dB z (n.toNat/32) (n.toNat%32)
  (W (n_3+1)) (l++[V (U ((dz z).getD n_3.toNat 0)/2^min (n.toNat%32) 64)])/\max (↑(dz z).length-W (n_3+1)) 0< ↑(dz z).length-n_3/\ ∀(i
  :Nat),i<l.length+1->(if i<l.length then l.getD i 0 else V (U ((dz z).getD n_3.toNat 0)/2^min (n.toNat%32) 64))=(l++[V (U ((dz z).getD
  n_3.toNat 0)/2^min (n.toNat%32) 64)]).getD i 0))/\(↑(dz z).length<=n_3->(((n.toNat/32:Nat):Int)< ↑(dz z).length->(0<=((n.toNat/32:
  Nat):Int)/\((n.toNat/32:Nat):Int)< ↑(dz z).length)/\0<=((n.toNat%32:Nat):Int)/\(¬bits BinOp.and IntKind.u32 ((dz z).getD (n.toNat/
  32) 0) (V (V (2^min (n.toNat%32) 32)-1))=0->(z<0->br l/\(br (ah (aF IntKind.u32) (min (tl l) l.length) fun i=>[SV.int IntKind.u32
  ((List.take (tl l) l).getD i 0)])/\br [1])/\br (cf (ah (aF IntKind.u32) (min (tl l) l.length) fun i=>[SV.int IntKind.u32 ((List.take (tl
  l) l).getD i 0)]) [1])/\(zv true (cf (ah (aF IntKind.u32) (min (tl l) l.length) fun i=>[SV.int IntKind.u32 ((List.take (tl l) l).getD i 0)]) [1])
  <0↔z/2^n.toNat<0)/\(dz (zv true (cf (ah (aF IntKind.u32) (min (tl l) l.length) fun i=>[SV.int IntKind.u32 ((List.take (tl l) l).getD
  i 0)]) [1]))).length=(dz (z/2^n.toNat)).length/\ ∀(i:Nat),i<(dz (zv true (cf (ah (aF IntKind.u32) (min (tl l) l.length) fun i=>[SV.int
  IntKind.u32 ((List.take (tl l) l).getD i 0)]) [1]))).length->(dz (zv true (cf (ah (aF IntKind.u32) (min (tl l) l.length) fun i=>[SV.int IntKind.u32
  ((List.take (tl l) l).getD i 0)]) [1]))).getD i 0=(dz (z/2^n.toNat)).getD i 0)/\(0<=z->br l/\(zv (decide (z<0)) l<0↔z/2^n.toNat<
  0)/\(dz (zv (decide (z<0)) l)).length=(dz (z/2^n.toNat)).length/\ ∀(i:Nat),i<(dz (zv (decide (z<0)) l)).length->(dz (zv (decide (z<
  0)) l)).getD i 0=(dz (z/2^n.toNat)).getD i 0))/\(bits BinOp.and IntKind.u32 ((dz z).getD (n.toNat/32) 0) (V (V (2^min (n.toNat%32) 32)-1))
  =0->(z<0->br l/\(br (ah (aF IntKind.u32) (min (tl l) l.length) fun i=>[SV.int IntKind.u32 ((List.take (tl l) l).getD i 0)])/\br [1])
  /\br (cf (ah (aF IntKind.u32) (min (tl l) l.length) fun i=>[SV.int IntKind.u32 ((List.take (tl l) l).getD i 0)]) [1])/\(zv true (cf (ah
  (aF IntKind.u32) (min (tl l) l.length) fun i=>[SV.int IntKind.u32 ((List.take (tl l) l).getD i 0)]) [1])<0↔z/2^n.toNat<0)/\(dz (zv true
  (cf (ah (aF IntKind.u32) (min (tl l) l.length) fun i=>[SV.int IntKind.u32 ((List.take (tl l) l).getD i 0)]) [1]))).length=(dz (z/2^n.toNat)).length
  /\ ∀(i:Nat),i<(dz (zv true (cf (ah (aF IntKind.u32) (min (tl l) l.length) fun i=>[SV.int IntKind.u32 ((List.take (tl l) l).getD i 0)]) [1]))).length
  ->(dz (zv true (cf (ah (aF IntKind.u32) (min (tl l) l.length) fun i=>[SV.int IntKind.u32 ((List.take (tl l) l).getD i 0)]) [1]))).getD i 0=(dz
  (z/2^n.toNat)).getD i 0)/\(0<=z->br l/\(zv (decide (z<0)) l<0↔z/2^n.toNat<0)/\(dz (zv (decide (z<0)) l)).length=(dz (z/2^
  n.toNat)).length/\ ∀(i:Nat),i<(dz (zv (decide (z<0)) l)).length->(dz (zv (decide (z<0)) l)).getD i 0=(dz (z/2^n.toNat)).getD i 0)))/\
  (↑(dz z).length<=((n.toNat/32:Nat):Int)->(z<0->br l/\(br (ah (aF IntKind.u32) (min (tl l) l.length) fun i=>[SV.int IntKind.u32 ((List.take
  (tl l) l).getD i 0)])/\br [1])/\br (cf (ah (aF IntKind.u32) (min (tl l) l.length) fun i=>[SV.int IntKind.u32 ((List.take (tl l) l).getD i
  0)]) [1])/\(zv true (cf (ah (aF IntKind.u32) (min (tl l) l.length) fun i=>[SV.int IntKind.u32 ((List.take (tl l) l).getD i 0)]) [1])<0↔z/
  2^n.toNat<0)/\(dz (zv true (cf (ah (aF IntKind.u32) (min (tl l) l.length) fun i=>[SV.int IntKind.u32 ((List.take (tl l) l).getD i 0)]) [1]))).length
  =(dz (z/2^n.toNat)).length/\ ∀(i:Nat),i<(dz (zv true (cf (ah (aF IntKind.u32) (min (tl l) l.length) fun i=>[SV.int IntKind.u32 ((List.take
  (tl l) l).getD i 0)]) [1]))).length->(dz (zv true (cf (ah (aF IntKind.u32) (min (tl l) l.length) fun i=>[SV.int IntKind.u32 ((List.take (tl l)
  l).getD i 0)]) [1]))).getD i 0=(dz (z/2^n.toNat)).getD i 0)/\(0<=z->br l/\(zv (decide (z<0)) l<0↔z/2^n.toNat<0)/\(dz (zv (decide
  (z<0)) l)).length=(dz (z/2^n.toNat)).length/\ ∀(i:Nat),i<(dz (zv (decide (z<0)) l)).length->(dz (zv (decide (z<0)) l)).getD i 0=(dz
  (z/2^n.toNat)).getD i 0))):=by
 have hl:=dm hz;have hr:n.toNat%32<32:=by omega
 have hd:=(bI z).1;refine⟨F1 z _ _,fun i out h=>⟨fun hi=> ?_,fun hi=> ?_⟩⟩
 . obtain⟨g1,g2,g3⟩:=lD h;have d0:=bH hd i.toNat;have d1:=bH hd (i.toNat+1);rw [aG (n:=i+1) (by omega) (by omega),show(i+1).toNat=i.toNat+1 by omega,ct (n:=(dz z).getD i.toNat 0) (by omega) (by omega),ct (n:=(dz z).getD (i.toNat+1) 0) (by omega) (by omega),ct (n:=(dz z).getD (i.toNat+1) 0*4294967296) (by omega) (by omega),show min (n.toNat%32) 64=n.toNat%32 by omega];have ho:=yZ (u:=(dz z).getD i.toNat 0) (y:=(dz z).getD (i.toNat+1) 0) (r:=32) d0.1 (by have:=d0.2;omega) d1.1 (by have:=d0.2;have:=d1.2;omega)
   rw [show(2:Int)^32=4294967296 from rfl]at ho;rw [J6 ((dz z).getD (i.toNat+1) 0),ho];refine⟨by omega,fun hk=> ?_,fun hk=> ?_⟩
   . have hst:=l5 hr h hi rfl
     and_intros<;>first|omega|assumption|exact fun j hj=>(gD (by omega)).symm
   . have e0:(dz z).getD (i.toNat+1) 0=0:=by rw [J0,J7 (by omega)];rfl
     have hst:=l5 (v:=(dz z).getD i.toNat 0/2^(n.toNat%32)) hr h hi (by rw [e0];simp)
     and_intros<;>first|omega|assumption|exact fun j hj=>(gD (by omega)).symm
 . obtain⟨f1,f2⟩:=yH hz h hi;obtain⟨g1,g2,g3⟩:=lD h;have hol:out.length<=1000000:=by omega
   have hls:=Gr (z:=z) (n:=n.toNat);have hyes:=fun(h1:z<0) (h2: ¬(z.natAbs:Int)%2^n.toNat=0)=>IU h1 f1 hol f2 h2
   have hno:=fun(h2:z<0->(z.natAbs:Int)%2^n.toNat=0)=>Ni f2 h2
   have fy:z<0-> ¬(z.natAbs:Int)%2^n.toNat=0->_:=fun h1 h2=>(⟨f1,⟨(hyes h1 h2).1,(hyes h1 h2).2.1⟩,(hyes h1 h2).2.2.1,by rw [(hyes h1 h2).2.2.2],by rw [(hyes h1 h2).2.2.2],fun i hi=>by rw [(hyes h1 h2).2.2.2]⟩:br out/\(br (ah (aF IntKind.u32) (min (tl out) out.length) fun i=>[SV.int IntKind.u32 ((List.take (tl out) out).getD i 0)])/\br [1])/\br (cf (ah (aF IntKind.u32) (min (tl out) out.length) fun i=>[SV.int IntKind.u32 ((List.take (tl out) out).getD i 0)]) [1])/\(zv true (cf (ah (aF IntKind.u32) (min (tl out) out.length) fun i=>[SV.int IntKind.u32 ((List.take (tl out) out).getD i 0)]) [1])<0↔z/2^n.toNat<0)/\(dz (zv true (cf (ah (aF IntKind.u32) (min (tl out) out.length) fun i=>[SV.int IntKind.u32 ((List.take (tl out) out).getD i 0)]) [1]))).length=(dz (z/2^n.toNat)).length/\ ∀(i:Nat),i<(dz (zv true (cf (ah (aF IntKind.u32) (min (tl out) out.length) fun i=>[SV.int IntKind.u32 ((List.take (tl out) out).getD i 0)]) [1]))).length->(dz (zv true (cf (ah (aF IntKind.u32) (min (tl out) out.length) fun i=>[SV.int IntKind.u32 ((List.take (tl out) out).getD i 0)]) [1]))).getD i 0=(dz (z/2^n.toNat)).getD i 0)
   have fn:(z<0->(z.natAbs:Int)%2^n.toNat=0)->_:=fun h2=>(⟨f1,by rw [hno h2],by rw [hno h2],fun i hi=>by rw [hno h2]⟩:br out/\(zv (decide (z<0)) out<0↔z/2^n.toNat<0)/\(dz (zv (decide (z<0)) out)).length=(dz (z/2^n.toNat)).length/\ ∀(i:Nat),i<(dz (zv (decide (z<0)) out)).length->(dz (zv (decide (z<0)) out)).getD i 0=(dz (z/2^n.toNat)).getD i 0)
   rw [sb (bH hd (n.toNat/32)) hr];refine⟨fun hk=>⟨by omega,by omega,fun hb=>⟨fun h1=>fy h1 (fun h2=>hlost (hls.1 h2).1),fun h1=>fn (fun h=>by omega)⟩,fun hb=>⟨fun h1=>fy h1 (fun h2=>hlost (hls.1 h2).1),fun h1=>fn (fun h=>by omega)⟩⟩,fun hk=>⟨fun h1=>fy h1 (fun h2=>hlost (hls.1 h2).1),fun h1=>fn (fun h=>by omega)⟩⟩
theorem aal :aH Tryz.prog Wn:=av XB hm Tryz.func394 (by kernel_rfl) (by kernel_rfl) T0.ok (by kernel_rfl) (fun a=>aad a.1 a.2) fun a hp=>by
 have h:SN a.1 a.2:=by
  rw [<-Nc];simp only [aA];obtain⟨z,n⟩:=a
  try dsimp only at hp
  simp [-List.getD_eq_getElem?_getD,hp];have hn:=Ch hp.2;have e1:n.tdiv 32=(n.toNat/32:Nat):=by rw [Ky (by omega)];omega
  have e2:n.tmod 32=(n.toNat%32:Nat):=by rw [X9 (by omega)];omega
  rw [e1,e2,aG (n:=((n.toNat/32:Nat):Int)) (by omega) (by omega),ct (n:=((n.toNat%32:Nat):Int)) (by omega) (by omega),show max n 0/32=((n.toNat/32:Nat):Int) by omega,K7,K7];have i0:gC z ((n.toNat/32:Nat):Int) 0 false:=by unfold gC;simp [nv]
  refine⟨i0,fun i=>⟨fun h=>⟨fun h1=>⟨fun h2=> ?_,fun h2=> ?_⟩,fun h1=> ?_⟩,fun h=>⟨fun h1=>⟨fun h2=> ?_,fun h2=> ?_⟩,fun h1=> ?_⟩⟩⟩
  . obtain⟨s1,s2⟩:=uO h h1;have hl:=dm hp.1;rw [aG (n:=i+1) (by omega) (by omega)];exact⟨by omega,by simpa using s2,by omega⟩
  . exact shrF hp.1 hn (by have:=l8 h (.inr h2);simpa using this)
  . exact shrF hp.1 hn (by have:=l8 h (.inl h1);simpa using this)
  . obtain⟨s1,s2⟩:=uO h h1;have hl:=dm hp.1;rw [aG (n:=i+1) (by omega) (by omega)];exact⟨by simpa using s2,by omega⟩
  . exact ZH hp.1 hn (by have:=l8 h (.inr h2);simpa using this)
  . exact ZH hp.1 hn (by have:=l8 h (.inl h1);simpa using this)
 exact h
end Go.Proofs.Big
