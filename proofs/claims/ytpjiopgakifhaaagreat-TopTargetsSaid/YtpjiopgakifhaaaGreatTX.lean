import Derived.Test.YtpjiopgakifhaaaGreatTT
import Derived.Test.YtpjiopgakifhaaaGreatTG
import Derived.Test.YtpjiopgakifhaaaGreatTU
import Derived.Test.YtpjiopgakifhaaaGreatTW
set_option linter.unusedSectionVars false
set_option linter.unusedSimpArgs false
set_option linter.unusedVariables false
set_option maxRecDepth 100000
namespace Go.Proofs.Big
open Go Go.Sx Go.Proofs Go.RowKit
section
variable [bW]
def DC {α:Type} (C:wN α) (d:Nat) (l:List SV) (a:α):Prop:=C.dec (l.map (iF d))=some a/\C.ak (l.map (iF d))
def DA {α:Type} (A:Arg α) (x:SV) (a:α):Prop:= ∃p,A.dec (iF 14 x)=some (p,a)/\p
theorem eM {α:Type} {A:Arg α} {pre:α->Prop} {res:α->SV} {P:Program} {f:Nat} (hc:nh P f (fl (iR.one A).dec pre res)) {x r:SV} {a:α} (h1:DA A x a) (hp:pre a) (hpl:od (res a)=true) (hr:oZ (res a) r):Fact P f [x] r:=by
 obtain⟨p,e,hq⟩:=h1;refine nu hc 14 (p:=p/\pre a) (r:=res a) ?_ ⟨hq,hp⟩ hpl hr;unfold fl;rw [kJ];show(match A.dec (iF 14 x)with|some (p,a)=>some (p/\pre a,res a)|none=>none)=_
 rw [e]
theorem gS {α β:Type} {A:Arg α} {B:Arg β} {pre:α×β->Prop} {res:α×β->SV} {P:Program} {f:Nat} (hc:nh P f (fl (iR.cons A (iR.one B)).dec pre res)) {x y r:SV} {a:α} {b:β} (h1:DA A x a) (h2:DA B y b) (hp:pre (a,b)) (hpl:od (res (a,b))=true) (hr:oZ (res (a,b)) r):Fact P f [x,y] r:=by
 obtain⟨p,e,hq⟩:=h1;obtain⟨p',e',hq'⟩:=h2;refine nu hc 14 (p:=(p/\p')/\pre (a,b)) (r:=res (a,b)) ?_ ⟨⟨hq,hq'⟩,hp⟩ hpl hr;unfold fl;rw [kJ];have e2:(iR.cons A (iR.one B)).dec ([x,y].map (iF 14))=some (p/\p',(a,b)):=by
  show(match A.dec (iF 14 x)with|some (p,a)=>(match B.dec (iF 14 y)with|some (q,b)=>some (p/\q,(a,b))|none=>none)|none=>none)=_
  rw [e];dsimp only;rw [e']
 rw [e2]
theorem FQ {ik:IntKind} {d:Nat} {n:Int}:DC (aF ik) (d+1) [.int ik n] n:=⟨oI ik n,trivial⟩
theorem Sz {ik:IntKind} {d:Nat} {e:XE} {lo hi:Int}:DC (aF ik) (d+1) [.sy ik e lo hi] e.den:=⟨oI ik _,trivial⟩
theorem da_y {ik:IntKind} {e:XE} {lo hi:Int}:DA (DN ik) (.sy ik e lo hi) e.den:=⟨True,by show oB (rI ik (.int ik e.den)) _=_;rw [oI];rfl,trivial⟩
theorem PR {α:Type} {C:wN α} {d n:Nat} {f:Nat->List SV} {l:List α} (hn:n=l.length) (h: ∀i,i<n->DC C d (f i) (l.getD i C.qW)):HB C n (fun i=>(f i).map (iF d))/\ah C n (fun i=>(f i).map (iF d))=l:=
 ⟨fun i hi=>⟨by rw [(h i hi).1];rfl,(h i hi).2⟩,kj hn fun i hi=>(h i hi).1⟩
theorem N1 {α:Type} {C:wN α} (l:List α):HB C l.length (fun i=>C.enc (l.getD i C.qW)):=fun i _=>⟨by rw [C.self];rfl,C.kW _⟩
theorem yk {α:Type} {C:wN α} {es n:Nat} {f:Nat->List SV} {l:List α} (he:es=C.n) (hn:n=l.length) (h: ∀i,i<n->DC C 13 (f i) (l.getD i C.qW)):DA (zN C) (.aI es n f) l:=by
 subst he;obtain⟨h1,h2⟩:=PR hn h;refine⟨_,?_,h1⟩;show(match Nat.beq C.n C.n with|true=>some (HB C n (fun i=>(f i).map (iF 13)),ah C n (fun i=>(f i).map (iF 13)))|false=>none)=_
 rw [Yz,h2]
theorem da_tg {α:Type} {C:wN α} {i:Nat} {l:List α} (h:bW.tag i=Av C l):DA (zN C) (.tg i) l:=by
 refine⟨HB C l.length (fun i=>C.enc (l.getD i C.qW)),?_,N1 l⟩;show(zN C).dec (bW.tag i)=_
 rw [h];show(match Nat.beq C.n C.n with|true=>some (HB C l.length (fun i=>C.enc (l.getD i C.qW)),ah C l.length (fun i=>C.enc (l.getD i C.qW)))|false=>none)=_
 rw [Yz,iJ rfl]
theorem ml {α:Type} {C:wN α} {h0} {d es n:Nat} {f:Nat->List SV} {l:List α} (he:es=C.n) (hn:n=l.length) (h: ∀i,i<n->DC C d (f i) (l.getD i C.qW)):DC (OE C h0) (d+1) [.aI es n f] l:=by
 subst he;obtain⟨h1,h2⟩:=PR hn h;refine⟨?_,h1⟩;show(match Nat.beq C.n C.n with|true=>some (ah C n (fun i=>(f i).map (iF d)))|false=>none)=_
 rw [Yz,h2]
theorem dc_nils {α:Type} {C:wN α} {h0} {d:Nat}:DC (OE C h0) (d+1) [.aq] []:=⟨rfl,trivial⟩
theorem z7 {α:Type} {C:wN α} {h0} {d i:Nat} {l:List α} (h:bW.tag i=Av C l):DC (OE C h0) (d+1) [.tg i] l:=by
 constructor
 . show(OE C h0).dec [bW.tag i]=_
   rw [h];show(match Nat.beq C.n C.n with|true=>some (ah C l.length (fun i=>C.enc (l.getD i C.qW)))|false=>none)=_
   rw [Yz,iJ rfl]
 . show(OE C h0).ak [bW.tag i]
   rw [h];exact N1 l
theorem Ax {d:Nat} {b y:SV} {z:Int} {L:List Int} (hb:b=SV.ff\/b=SV.tt) (hy:DC cD (d+1) [y] L) (hL:L=dz z) (hs:b=SV.ff->0<=z) (hs':b=SV.tt->z<0):DC aj (d+1) [b,y] z:=by
 subst hL;have hr:rB (iF (d+1) b)=some (decide (z<0)):=by
  rcases hb with rfl|rfl
  . have:=hs rfl;rw [decide_eq_false (by omega)];rfl
  . have:=hs' rfl;rw [decide_eq_true this];rfl
 constructor
 . show Ha (iF (d+1) b) (iF (d+1) y)=_
   have h1:cD.dec [iF (d+1) y]=some (dz z):=hy.1;simp only [Ha,hr,h1,oB,Ox]
 . show EK (iF (d+1) b) (iF (d+1) y)
   refine .mk ⟨hy.2,_,_,hr,hy.1,bI z,fun h=> ?_⟩;simp only [decide_eq_true_eq]at h;simp only [dz,oM (show 0<z.natAbs by omega)];simp
theorem oA {z:Int} (h0:0<z) (h:z<4294967296):dz z=[z]:=by
 unfold dz;rw [oM (by omega),show z.natAbs/4294967296=0 by omega,ur];have:((z.natAbs:Int)%4294967296)=z:=by omega
 simp;omega
theorem X5 {b y:SV} {z:Int} (h:DC aj 13 [b,y] z):DA Rx (.agg [.s b, .s y]) z:=by
 refine⟨_,?_,h.2⟩;show oB (aV [.s (iF 13 b), .s (iF 13 y)]) (fun cs=>oB (aj.dec cs) fun a=>some (aj.ak cs,a))=_
 have h1:aj.dec [iF 13 b,iF 13 y]=some z:=h.1;show oB (aj.dec [iF 13 b,iF 13 y]) (fun a=>some (aj.ak [iF 13 b,iF 13 y],a))=_
 rw [h1];rfl
end
end Go.Proofs.Big
namespace Go.Proofs.Big
open Go Go.Sx Go.Proofs Go.RowKit Go.Proofs.Top
def lV (l:List Int):SV:= .aI 1 l.length fun i=>[.int .u32 (l.getD i 0)]
def zP (i:Nat):SV:= .agg [S .ff,S (.tg i)]
def zG (i:Nat):SV:= .agg [S .tt,S (.tg i)]
def z0 :SV:= .agg [S .ff,S (.aI 1 0 (aY 1 []))]
def zn :SV:= .agg [S .ff,S .aq]
def zk (n:Int):SV:= .agg [S .ff,S (.aI 1 1 (aY 1 [[.int .u32 n]]))]
def zkm (n:Int):SV:= .agg [S .tt,S (.aI 1 1 (aY 1 [[.int .u32 n]]))]
def zo :SV:= .agg [S .DG,S .DG]
section
variable [bW]
theorem dcD1 {n:Int}:DC cD 13 [.aI 1 1 (aY 1 [[.int .u32 n]])] [n]:=ml rfl rfl fun i hi=>by
 have:i=0:=by omega
 subst this;exact FQ
theorem zaP {i:Nat} {z:Int} (h:bW.tag i=lV (dz z)) (h0:0<=z):DA Rx (zP i) z:=X5 (Ax (.inl rfl) (z7 h) rfl (fun _=>h0) (fun e=>by cases e))
theorem zaM {i:Nat} {z:Int} (h:bW.tag i=lV (dz z)) (h0:0<z):DA Rx (zG i) (-z):=X5 (Ax (.inr rfl) (z7 h) (B2 z).symm (fun e=>by cases e) (fun _=>by omega))
theorem za0 :DA Rx z0 0:=X5 (Ax (.inl rfl) (ml rfl rfl fun i hi=>by omega) gz.symm (fun _=>by omega) (fun e=>by cases e))
theorem zan :DA Rx zn 0:=X5 (Ax (.inl rfl) dc_nils gz.symm (fun _=>by omega) (fun e=>by cases e))
theorem zak {n:Int} (h0:0<n) (h1:n<4294967296):DA Rx (zk n) n:=X5 (Ax (.inl rfl) dcD1 (oA h0 h1).symm (fun _=>by omega) (fun e=>by cases e))
theorem zakm {n:Int} (h0:0<n) (h1:n<4294967296):DA Rx (zkm n) (-n):=X5 (Ax (.inr rfl) dcD1 (by rw [B2,oA h0 h1]) (fun e=>by cases e) (fun _=>by omega))
theorem EY {b y:SV} {z:Int} (hb: ∀ro o v,Rel ro o (.bool (decide (z<0))) v->Rel ro o b v) (hy:oZ (Av (aF .u32) (dz z)) y):oZ (zS z) (.agg [.s b, .s y]):=by
 intro ro o v h;obtain⟨cs,hv,hs,hh⟩:=cU h;rw [hv];refine .agg _ _ _ hs fun k sv hk=> ?_
 match k,hk with
 |0,hk=>rw [cC]at hk;cases hk;exact hb _ _ _ (hh 0 _ rfl)
 |1,hk=>rw [cB,cC]at hk;cases hk;exact hy _ _ _ (hh 1 _ rfl)
 |k+2,hk=>rw [cB,cB]at hk;cases hk
theorem AP {z:Int} (h:0<=z): ∀ro o v,Rel ro o (.bool (decide (z<0))) v->Rel ro o .ff v:=fun ro o v hr=>by
 rw [decide_eq_false (by omega)]at hr;rw [jJ hr];exact .ff _
theorem weak_tt {z:Int} (h:z<0): ∀ro o v,Rel ro o (.bool (decide (z<0))) v->Rel ro o .tt v:=fun ro o v hr=>by
 rw [decide_eq_true h]at hr;rw [jJ hr];exact .tt _
theorem zwP {i:Nat} {z:Int} (h:bW.tag i=lV (dz z)) (h0:0<=z):oZ (zS z) (zP i):=EY (AP h0) (uw h rfl)
theorem zwM {i:Nat} {z:Int} (h:bW.tag i=lV (dz z)) (h0:0<z):oZ (zS (-z)) (zG i):=EY (weak_tt (by omega)) (uw (by rw [h,B2];rfl) rfl)
theorem vZ {es n:Nat} {f g:Nat->List SV} (e: ∀i,i<n->f i=g i):oZ (.aI es n f) (.aI es n g):=by
 intro ro o v h;rcases dE h with⟨hl,A,cap,hv⟩|⟨b,k0,cap,vs,hv,hcap,hl,hm,hh⟩
 . rw [hv];exact .fe _ _ _ _ _ _ hl
 . rw [hv];exact .aI _ _ _ _ _ _ _ vs hcap (fun i hi=>by rw [<-e i hi];exact hl i hi) hm (fun i j sv hi hj=>hh i j sv hi (by rw [e i hi];exact hj))
theorem NO :oZ (zS 0) z0:=EY (AP (by omega)) (by rw [gz];exact vZ (es:=1) (n:=0) fun i hi=>by omega)
theorem zwk {n:Int} (h0:0<n) (h1:n<4294967296):oZ (zS n) (zk n):=EY (AP (by omega)) (by
 rw [oA h0 h1];exact vZ (es:=1) (n:=1) fun i hi=>by
  have:i=0:=by omega
  subst this;rfl)
theorem weak_t2 {a b x y:SV} (h1:oZ a x) (h2:oZ b y):oZ (.bp [a,b]) (.bp [x,y]):=by
 intro ro o w hr;obtain⟨vs,hv,hs,hh⟩:=jt hr;rw [hv];refine .bp _ _ _ hs fun i sv hi=> ?_
 match i,hi with
 |0,hi=>cases hi;exact h1 _ _ _ (hh 0 a rfl)
 |1,hi=>cases hi;exact h2 _ _ _ (hh 1 b rfl)
 |i+2,hi=>simp at hi
theorem zwo {z:Int}:oZ (zS z) zo:=by
 intro ro o v h;obtain⟨cs,hv,hs,hh⟩:=cU h;rw [hv];refine .agg _ _ _ hs fun k sv hk=> ?_
 match k,hk with
 |0,hk=>rw [cC]at hk;cases hk;exact .DG _ _ (gk (hh 0 _ rfl) rfl)
 |1,hk=>rw [cB,cC]at hk;cases hk;exact .DG _ _ (gk (hh 1 _ rfl) rfl)
 |k+2,hk=>rw [cB,cB]at hk;cases hk
theorem jZ {z:Int} (h:z.natAbs<18446744073709551616):fit z:=bz (k:=2) (by rw [fE];exact_mod_cast h) (by omega)
theorem Re {n:Int}:oZ (iS n) (I n):=oZ.refl _
theorem f291 {e:XE} {lo hi z:Int} {r:SV} (hd:e.den=z) (h0:z.natAbs<1000000) (hr:oZ (zS z) r):Fact Tryz.prog 291 [.sy .i64 e lo hi] r:=by
 subst hd;exact eM k291.1 da_y (by unfold fN;omega) rfl hr
theorem f305 {x y r:SV} {a b:Int} (hx:DA Rx x a) (hy:DA Rx y b) (h1:a.natAbs<1000000) (h2:b.natAbs<1000000) (hr:oZ (zS (a*b)) r):Fact Tryz.prog 305 [x,y] r:=gS k305.1 hx hy ⟨jZ (by omega),jZ (by omega)⟩ rfl hr
theorem f304 {x y r:SV} {a b:Int} (hx:DA Rx x a) (hy:DA Rx y b) (h1:a.natAbs<1000000) (h2:b.natAbs<1000000) (hr:oZ (zS (a+b)) r):Fact Tryz.prog 304 [x,y] r:=gS k304.1 hx hy ⟨jZ (by omega),jZ (by omega)⟩ rfl hr
theorem f364 {x y r:SV} {a b:Int} (hx:DA Rx x a) (hy:DA Rx y b) (h1:a.natAbs<1000000) (h2:b.natAbs<1000000) (hr:oZ (zS (a-b)) r):Fact Tryz.prog 364 [x,y] r:=gS k364.1 hx hy ⟨jZ (by omega),jZ (by omega)⟩ rfl hr
theorem f362 {x y r:SV} {a b:Int} (hx:DA Rx x a) (hy:DA Rx y b) (h1:a.natAbs<1000000) (h2:b.natAbs<1000000) (hr:oZ (zS (Int.gcd a b:Int)) r):Fact Tryz.prog 362 [x,y] r:=gS XB.1 hx hy ⟨jZ (by omega),jZ (by omega)⟩ rfl hr
theorem f340 {x y r q:SV} {a b:Int} (hx:DA Rx x a) (hy:DA Rx y b) (h1:a.natAbs<1000000) (h2:b.natAbs<1000000) (h3:b≠0) (hr:oZ (zS (a.tdiv b)) r) (hq:oZ (zS (a.tmod b)) q):Fact Tryz.prog 340 [x,y] (.bp [r,q]):=gS k340.1 hx hy ⟨jZ (by omega),jZ (by omega),h3⟩ rfl (weak_t2 hr hq)
theorem f287 {x r:SV} {a:Int} (hx:DA Rx x a) (h1:a.natAbs<1000000) (hr:oZ (iS (aW a)) r):Fact Tryz.prog 287 [x] r:=eM k287.1 hx (jZ (by omega)) rfl hr
theorem f380 {x r:SV} {a:Int} (hx:DA Rx x a) (h1:a.natAbs<1000000) (hr:oZ (iS (dz a).length) r):Fact Tryz.prog 380 [x] r:=eM k380.1 hx (jZ (by omega)) rfl hr
theorem f284 {x r:SV} {a:Int} (hx:DA Rx x a) (h1:a.natAbs<1000000) (hr:oZ (iS (bl a)) r):Fact Tryz.prog 284 [x] r:=eM aag.1 hx (jZ (by omega)) rfl hr
theorem f341 {x r:SV} {a:Int} (hx:DA Rx x a) (h1:a.natAbs<1000000) (hr:oZ (iS a) r):Fact Tryz.prog 341 [x] r:=eM k341.1 hx (by unfold uV;omega) rfl hr
theorem w_y {e:XE} {lo hi n:Int} (h:n=e.den) (h1:lo<=n) (h2:n<=hi):oZ (iS n) (.sy .i64 e lo hi):=by
 intro ro o v hr;rw [aK hr];exact .sy _ _ _ _ _ _ h h1 h2
structure TgR (V : Int) : Prop where
 t20 : bW.tag 20 = lV (dz (16 * V))
 t21 : bW.tag 21 = lV (dz V)
 t22 : bW.tag 22 = lV (dz (24 * V))
 t23 : bW.tag 23 = lV (dz (8 * V))
 t24 : bW.tag 24 = lV (dz (if V % 2 = 0 then 16 else 8))
 t25 : bW.tag 25 = lV (dz (if V % 2 = 0 then V / 2 else V))
 t26 : bW.tag 26 = lV (dz (if V % 2 = 0 then 1 else 2))
 t27 : bW.tag 27 = lV (dz (V / 2))
 v1 : bW.val 1 = V
 v4 : bW.val 4 = -(V / 2)
 v8 : bW.val 8 = bl (V / 2)
end
def vY :SV:=Y 1 60 559
def vA :SV:=Y 4 (-279) (-30)
def I2 :List (Nat×List SV×SV):=[
 (291,[.sy .i64 (.mul (.v 1) (.c 16)) 960 8944],zP 20),(305,[zP 20,zk 1],zP 20),(291,[.sy .i64 (.mul (.v 1) (.c (-1))) (-559) (-60)],zG 21),
 (305,[zkm 24,zG 21],zP 22),(364,[zP 20,zP 22],zG 23),(305,[zn,zG 21],z0),(362,[zG 23,zn],zP 23),(362,[zP 23,zk 16],zP 24),
 (340,[zG 23,zP 24], .bp [zG 25,z0]),(340,[zn,zP 24], .bp [z0,z0]),(340,[zk 16,zP 24], .bp [zP 26,z0]),
 (305,[zP 26,zn],z0),(304,[zG 25,z0],zG 25),(287,[zP 26],I 1),(380,[zG 25],I 1),(380,[zP 26],I 1),
 (305,[z0,zP 26],z0),(305,[zn,zP 26],z0),(305,[zG 25,zk 1],zG 25),(304,[z0,zG 25],zG 25),(305,[zk 1,zP 26],zP 26),
 (362,[zG 25,z0],zP 25),(362,[zG 25,zn],zP 25),(362,[zP 25,zP 26],zk 1),(340,[zG 25,zk 1], .bp [zG 25,z0]),(340,[zP 26,zk 1], .bp [zP 26,z0]),
 (305,[zP 26,zk 1],zP 26),(340,[zG 25,zP 26], .bp [zG 27,zo]),(340,[z0,zP 26], .bp [z0,z0]),(340,[zn,zP 26], .bp [z0,z0]),
 (284,[zG 27],Y 8 1 20),(341,[zG 27],vA)]
theorem all_V {P:Int->Bool} (h:((List.range 500).all fun k=>P (60+(k:Int)))=true) {V:Int} (h1:60<=V) (h2:V<=559):P V=true:=by
 have:=Js.1 h (V-60).toNat (Kn.2 (by omega))
 rwa [show(60:Int)+((V-60).toNat:Int)=V by omega]at this
def arB (V:Int):Bool:=
 let g:Int:=if V%2=0 then 16 else 8
 let q:Int:=if V%2=0 then V/2 else V
 let d:Int:=if V%2=0 then 1 else 2
 decide ((Int.gcd (8*V) 16:Int)=g)&&decide ((-(8*V)).tdiv g= -q)&&decide ((-(8*V)).tmod g=0)&&decide ((16:Int).tdiv g=d)&&decide ((16:Int).tmod g=0)&&decide ((Int.gcd q d:Int)=1)&&decide ((-q).tdiv d= -(V/2))
theorem ar_all :((List.range 500).all fun k=>arB (60+(k:Int)))=true:=by kernel_rfl
section
variable [bW] {V : Int} (h : TgR V) (h1 : 60 <= V) (h2 : V <= 559)
include h h1 h2
theorem bl_half :1<=bl (-(V/2))/\bl (-(V/2))<=20:=by
 have e:bl (-(V/2))=(wL (V/2).natAbs:Int):=by unfold bl;rw [Int.natAbs_neg]
 have a1:=xJ (n:=(V/2).natAbs) (k:=20) (by omega);have a2:wL (V/2).natAbs≠0:=by unfold wL;rw [if_neg (by omega)];omega
 omega
theorem Vj :A8 Tryz.prog I2:=by
 obtain⟨t20,t21,t22,t23,t24,t25,t26,t27,v1,v4,v8⟩:=h;have ha:=all_V ar_all h1 h2;unfold arB at ha;simp only [J2,decide_eq_true_eq]at ha;obtain⟨⟨⟨⟨⟨⟨a1,a2⟩,a3⟩,a4⟩,a5⟩,a6⟩,a7⟩:=ha;generalize hg:(if V%2=0 then(16:Int)else 8)=g at*
 generalize hq:(if V%2=0 then V/2 else V)=q at*
 generalize hd:(if V%2=0 then(1:Int)else 2)=d at*
 have gb:8<=g/\g<=16:=by split at hg<;>omega
 have qb:30<=q/\q<=559:=by split at hq<;>omega
 have db:1<=d/\d<=2:=by split at hd<;>omega
 have e16:(.mul (.v 1) (.c 16):XE).den=16*V:=by show bW.val 1*16=_;rw [v1,J6]
 have em1:(.mul (.v 1) (.c (-1)):XE).den= -V:=by show bW.val 1* -1=_;rw [v1];omega
 have p20:=zaP t20 (by omega);have g21:=zaM t21 (by omega);have p22:=zaP t22 (by omega);have p23:=zaP t23 (by omega);have g23:=zaM t23 (by omega);have p24:=zaP t24 (by omega);have p25:=zaP t25 (by omega);have g25:=zaM t25 (by omega);have p26:=zaP t26 (by omega);have g27:=zaM t27 (by omega);unfold I2;refine .cons (f291 e16 (by omega) (zwP t20 (by omega)))<| .cons (f305 p20 (zak (by omega) (by omega)) (by omega) (by omega) (by rw [Ke];exact zwP t20 (by omega)))<|
  .cons (f291 em1 (by omega) (zwM t21 (by omega)))<| .cons (f305 (zakm (by omega) (by omega)) g21 (by omega) (by omega) (by rw [show-24* -V=24*V by omega];exact zwP t22 (by omega)))<|
  .cons (f364 p20 p22 (by omega) (by omega) (by rw [show 16*V-24*V= -(8*V) by omega];exact zwM t23 (by omega)))<|
  .cons (f305 zan g21 (by omega) (by omega) (by rw [Int.zero_mul];exact NO))<|
  .cons (f362 g23 zan (by omega) (by omega) (by rw [show(Int.gcd (-(8*V)) 0:Int)=8*V by rw [Z9];omega];exact zwP t23 (by omega)))<|
  .cons (f362 p23 (zak (by omega) (by omega)) (by omega) (by omega) (by rw [a1];exact zwP t24 (by omega)))<|
  .cons (f340 g23 p24 (by omega) (by omega) (by omega) (by rw [a2];exact zwM t25 (by omega)) (by rw [a3];exact NO))<|
  .cons (f340 zan p24 (by omega) (by omega) (by omega) (by rw [Int.zero_tdiv];exact NO) (by rw [Int.zero_tmod];exact NO))<|
  .cons (f340 (zak (by omega) (by omega)) p24 (by omega) (by omega) (by omega) (by rw [a4];exact zwP t26 (by omega)) (by rw [a5];exact NO))<|
  .cons (f305 p26 zan (by omega) (by omega) (by rw [Int.mul_zero];exact NO))<| .cons (f304 g25 za0 (by omega) (by omega) (by rw [X6];exact zwM t25 (by omega)))<|
  .cons (f287 p26 (by omega) (by rw [jj (by omega)];exact Re))<| .cons (f380 g25 (by omega) (by rw [B2,oA (by omega) (by omega)];exact Re))<| .cons (f380 p26 (by omega) (by rw [oA (by omega) (by omega)];exact Re))<|
  .cons (f305 za0 p26 (by omega) (by omega) (by rw [Int.zero_mul];exact NO))<| .cons (f305 zan p26 (by omega) (by omega) (by rw [Int.zero_mul];exact NO))<|
  .cons (f305 g25 (zak (by omega) (by omega)) (by omega) (by omega) (by rw [Ke];exact zwM t25 (by omega)))<| .cons (f304 za0 g25 (by omega) (by omega) (by rw [Int.zero_add];exact zwM t25 (by omega)))<|
  .cons (f305 (zak (by omega) (by omega)) p26 (by omega) (by omega) (by rw [K8];exact zwP t26 (by omega)))<|
  .cons (f362 g25 za0 (by omega) (by omega) (by rw [show(Int.gcd (-q) 0:Int)=q by rw [Z9];omega];exact zwP t25 (by omega)))<|
  .cons (f362 g25 zan (by omega) (by omega) (by rw [show(Int.gcd (-q) 0:Int)=q by rw [Z9];omega];exact zwP t25 (by omega)))<|
  .cons (f362 p25 p26 (by omega) (by omega) (by rw [a6];exact zwk (by omega) (by omega)))<|
  .cons (f340 g25 (zak (by omega) (by omega)) (by omega) (by omega) (by omega) (by rw [Int.tdiv_one];exact zwM t25 (by omega)) (by rw [Int.tmod_one];exact NO))<|
  .cons (f340 p26 (zak (by omega) (by omega)) (by omega) (by omega) (by omega) (by rw [Int.tdiv_one];exact zwP t26 (by omega)) (by rw [Int.tmod_one];exact NO))<|
  .cons (f305 p26 (zak (by omega) (by omega)) (by omega) (by omega) (by rw [Ke];exact zwP t26 (by omega)))<|
  .cons (f340 g25 p26 (by omega) (by omega) (by omega) (by rw [a7];exact zwM t27 (by omega)) zwo)<|
  .cons (f340 za0 p26 (by omega) (by omega) (by omega) (by rw [Int.zero_tdiv];exact NO) (by rw [Int.zero_tmod];exact NO))<|
  .cons (f340 zan p26 (by omega) (by omega) (by omega) (by rw [Int.zero_tdiv];exact NO) (by rw [Int.zero_tmod];exact NO))<|
  .cons (f284 g27 (by omega) ?_)<| .cons (f341 g27 (by omega) (w_y v4.symm (by omega) (by omega)))<| .nil
 have hb:=bl_half (V:=V) ⟨t20,t21,t22,t23,by rw [hg];exact t24,by rw [hq];exact t25,by rw [hd];exact t26,t27,v1,v4,v8⟩ h1 h2;have e:bl (-(V/2))=bl (V/2):=by unfold bl;rw [Int.natAbs_neg]
 exact w_y (by show _=bW.val 8;rw [v8,e]) hb.1 hb.2
end
def me216 :List SV:=[.aI 10 1 (aY 10 [[I 0,I (-1),I (-1),I 0,I 0,I 0,I 0,I 0,I 8,I 0]]), .aI 2 1 (aY 2 [[vY,I 0]])]
def re216 :SV:= .bp [.aI 2 1 (aY 2 [[vA,I 0]]), .tt,I 0]
noncomputable def XR [bW]:DX:=XT.more I2
theorem m216 [bW]:cF XR 2000 216 Tryz.f216 me216 re216=true:=by kernel_rfl
theorem res_fact [bW] {V:Int} (h:TgR V) (h1:60<=V) (h2:V<=559):Fact Tryz.prog 216 me216 re216:=au (An.more okT (Vj h h1 h2)) hm (by unfold XT;kernel_rfl) m216
end Go.Proofs.Big
namespace Go.Proofs.Big
open Go Go.Sx Go.Proofs Go.RowKit
def IQ (f:Nat->Bool):Nat->Bool
 |0=>true
 |n+1=>IQ f n&&f n
theorem vn {f:Nat->Bool}: ∀{n:Nat},IQ f n=true-> ∀i,i<n->f i=true
 |0,_,i,hi=>by omega
 |n+1,h,i,hi=>by
  simp only [IQ,J2]at h;rcases Nat.lt_or_eq_of_le (Nat.le_of_lt_succ hi)with h1|h1
  . exact vn h.1 i h1
  . rw [h1];exact h.2
def C8 (p:List Int):Bool:=Nat.ble p.length 3&&p.all fun z=>decide (z.natAbs<Ru 6)
def CF (l:List (List Int)) (y:Int×Int):Bool:=Nat.ble l.length 10&&l.all C8&&yB y
def Zr :Nat->List (List Int)->Int×Int->Int×Int->Int->Int->Bool
 |0,l,lo,hi,f,t=>Nat.blt 0 l.length&&decide (0<=f)&&decide (f<=1000)&&decide (0<=t)&&decide (t<=1000)&&(decide (f-t=0)||decide (f-t=1))
 |k+1,l,lo,hi,f,t=>Nat.blt 0 l.length&&decide (0<=f)&&decide (f<=1000)&&decide (0<=t)&&decide (t<=1000)&&
  (decide (f-t=0)||(decide (f-t=1)||(yB lo&&yB hi&&yB (bb lo hi)&&CF l (bb lo hi)&&Zr k l lo (bb lo hi) f (ep l (bb lo hi))&&Zr k l (bb lo hi) hi (ep l (bb lo hi)) t&&
   Nat.ble ((bJ k l lo (bb lo hi) f (ep l (bb lo hi))).length+(bJ k l (bb lo hi) hi (ep l (bb lo hi)) t).length) 1000)))
def q388B (p:List Int):Bool:=C8 p&&(Nat.blt (bC p).length 2||(CF (bC p) y0&&CF (bC p) y1&&Zr 3000 (bC p) y0 y1 (ep (bC p) y0) (ep (bC p) y1)))
def nB (a:ao):Bool:=C8 a.1&&yB a.2.1&&yB a.2.2
def BZ (a:ao):Bool:=nB a&&yB (bb a.2.1 a.2.2)
def itB {α:Type} (D:α->Bool) (S:α->α) (G:α->Bool):Nat->α->Bool
 |0,_=>false
 |k+1,a=>G a&&(D a||itB D S G k (S a))
def okEB (a:ao):Bool:=itB gA ai BZ 3000 a
def q211B (a b:ao):Bool:=nB a&&nB b&& !Ac a&& !Ac b&&decide (aW (dd b.2.2 a.2.1)<=0)&&decide (0<aW (dd a.2.2 b.2.1))&&decide (aW (dd b.2.1 a.2.1)<=0)&&decide (aW (dd b.2.2 a.2.2)<0)&&decide (0<=aW (dd a.2.1 b.2.2))
def okKB (l:List ao):Bool:=Nat.ble l.length 2&&(!Nat.beq l.length 2||(q211B (l.getD 1 d0) (l.getD 0 d0)&&itB jR ke (fun s=>BZ s.1&&BZ s.2) 3000 (l.getD 0 d0,l.getD 1 d0)))&&IQ (fun i=>okEB ((pj i (oD l i)).getD i d0)) l.length
def okBB (p:List Int):Bool:=q388B p&&Nat.ble (dG p).length 2&&(dG p).all nB&&okKB (ec p)
def Eu (c:List (List Int)):Bool:=Nat.ble c.length 10&&c.all C8&&(fD c||(gI c||(Nat.beq (bq c).length 1&&okBB ((bq c).getD 0 [])&&Nat.ble (aC ((bq c).getD 0 [])).length 2&&
 IQ (fun i=>yB ((aC ((bq c).getD 0 [])).getD i d0).2.1&&yB ((aC ((bq c).getD 0 [])).getD i d0).2.2&&(bq c).all C8&&yB (mZ (aC ((bq c).getD 0 [])) i)) (aC ((bq c).getD 0 [])).length)))
def q227B (l:List (List (List Int))):Bool:=Nat.ble l.length 3&&l.all (fun c=>Eu c&&(!(aJ c).2||(yB (aJ c).1.2.1&&yB (aJ c).1.2.2)))&&IQ (fun i=> !(aJ (l.getD i [])).2) (l.length-1)
def q228B (a:ao):Bool:=C8 a.1&&yB a.2.1&&yB a.2.2
def q167B (l:List (List (List Int))):Bool:=q227B l&&(!(dD l).2||q228B (dD l).1)
def flrB (e:Int) (a:ao):Bool:=BZ a&&yB (eH a.2.2 e,e)
def q396B (q:ao) (e:Int):Bool:=decide (0<=e)&&decide (e<=64)&&itB (kU e) ai (flrB e) 3000 q
def N0 (y:Int×Int):Bool:=decide (0<=y.2)&&decide (y.2<=1024)&&decide (y.1.natAbs<Ru 6)
def HR (q:ao):Bool:=C8 q.1&&C8 (dZ q.1 [])&&Nat.ble 2 (tl q.1)&&N0 q.2.1&&N0 q.2.2&&yB q.2.1&&yB q.2.2&&
 ((decide (dd q.2.1 q.2.2=0)&&C8 (ae q.1)&&decide (cY (ae q.1) q.2.1=0))||(decide (dd q.2.1 q.2.2<0)&&CF (bC q.1) q.2.1&&CF (bC q.1) q.2.2&&decide (ep (bC q.1) q.2.1-ep (bC q.1) q.2.2=1)))
def vF (q:ao):Bool:=HR q&&q396B (cM q) 4&&decide (0<=kX q)&&decide (kX q<=15)
section
variable [bW]
theorem lB {p:List Int} (h:C8 p=true):bj 6 p/\p.length<=3:=by
 unfold C8 at h;simp only [J2]at h;obtain⟨h1,h2⟩:=h;have h1:=Qk h1;refine⟨jd (by omega) fun z hz=> ?_,h1⟩;have:=of_decide_eq_true (Js.1 h2 z hz);rw [<-AN];exact Z5.2 this
theorem OT {p:List Int} (h:C8 p=true):cr p:=bu (lB h).1 (by omega)
theorem Yq {p:List Int} {y:Int×Int} (h:C8 p=true) (k:yB y=true):bM p y:=by
 unfold bM;exact⟨an (lB h).1 (by omega),by have:=(lB h).2;omega,(yg k).2.1,(yg k).2.2.1,(yg k).2.2.2⟩
theorem q261 {p:List Int} (h:C8 p=true):gp p:=by
 unfold gp;exact⟨an (lB h).1 (by omega),(lB h).2⟩
theorem w7 {l:List (List Int)} {y:Int×Int} (h:CF l y=true):jO l y:=by
 unfold CF at h;simp only [J2]at h;obtain⟨⟨h1,h2⟩,h3⟩:=h;unfold jO;exact⟨Qk h1,fun p hp=>Yq (Js.1 h2 p hp) h3⟩
theorem JB {a b:Nat} (h:Nat.blt a b=true):a<b:=Qk h
theorem JN : ∀{k:Nat} {l:List (List Int)} {lo hi:Int×Int} {f t:Int},Zr k l lo hi f t=true->CA k l lo hi f t
 |0,l,lo,hi,f,t,h=>by
  simp only [Zr,J2,Qz,decide_eq_true_eq]at h;rw [Tj];exact⟨JB h.1.1.1.1.1,⟨h.1.1.1.1.2,h.1.1.1.2,h.1.1.2,h.1.2⟩,h.2⟩
 |k+1,l,lo,hi,f,t,h=>by
  simp only [Zr,J2,Qz,decide_eq_true_eq]at h;rw [BQ];refine⟨JB h.1.1.1.1.1,⟨h.1.1.1.1.2,h.1.1.1.2,h.1.1.2,h.1.2⟩,?_⟩;rcases h.2 with h|h|h
  . exact .inl h
  . exact .inr (.inl h)
  . obtain⟨⟨⟨⟨⟨⟨a1,a2⟩,a3⟩,a4⟩,a5⟩,a6⟩,a7⟩:=h;refine .inr (.inr ⟨(yg a1).1,(yg a2).1,?_,w7 a4,JN a5,JN a6,Qk a7⟩);have:=(yg a3).2.2.2;omega
theorem q388_ok {p:List Int} (h:q388B p=true):je p y0 y1 1073741824:=by
 unfold q388B at h;simp only [J2,Qz]at h;obtain⟨h1,h2⟩:=h;unfold je;refine⟨q261 h1,rfl,?_⟩;rcases h2 with h2|h2
 . exact .inl (JB h2)
 . exact .inr ⟨w7 h2.1.1,w7 h2.1.2,JN h2.2⟩
theorem MQ {a:ao} (h:nB a=true):ql a:=by
 unfold nB at h;simp only [J2]at h;unfold ql;exact⟨(yg h.1.2).1,(yg h.2).1,Yq h.1.1 h.2⟩
theorem q313 {a:ao} {y:Int×Int} (h:nB a=true) (k:yB y=true):eJ a y:=by
 have h':=h;unfold nB at h';simp only [J2]at h';unfold eJ;exact⟨MQ h,(yg k).1,Yq h'.1.1 k⟩
theorem A1 {a:ao} (h:BZ a=true):dA a:=by
 unfold BZ at h;simp only [J2]at h;have h':=h.1;unfold nB at h';simp only [J2]at h';unfold dA;exact⟨MQ h.1,(yg h.2).1,Yq h'.1.1 h.2⟩
theorem KK {α:Type} {D:α->Bool} {S:α->α} {G:α->Bool} {P:α->Prop} (hG: ∀a,G a=true->P a): ∀{k:Nat} {a:α},itB D S G k a=true->po D S P k a
 |0,_,h=>by cases h
 |k+1,a,h=>by
  simp only [itB,J2,Qz]at h;refine⟨hG a h.1,?_⟩;rcases h.2 with h2|h2
  . exact .inl h2
  . exact .inr (KK hG h2)
theorem q211_ok {a b:ao} (h:q211B a b=true):il a b:=by
 unfold q211B at h;simp only [J2,decide_eq_true_eq,Yx]at h;obtain⟨⟨⟨⟨⟨⟨⟨⟨a1,a2⟩,a3⟩,a4⟩,a5⟩,a6⟩,a7⟩,a8⟩,a9⟩:=h;unfold il;exact⟨MQ a1,MQ a2,a3,a4,a5,a6,a7,a8,a9⟩
theorem okK_ok {l:List ao} (h:okKB l=true):Lo l:=by
 unfold okKB at h;simp only [J2,Qz,Yx]at h;obtain⟨⟨h1,h2⟩,h3⟩:=h;unfold Lo;refine⟨Qk h1,fun hl=> ?_,fun i hi=> ?_⟩
 . rcases h2 with h2|h2
   . rw [hl]at h2;cases h2
   . refine⟨q211_ok h2.1,KK (fun s hs=> ?_) h2.2⟩;simp only [J2]at hs;unfold zK;exact⟨A1 hs.1,A1 hs.2⟩
 . have:=vn h3 i hi;unfold C1;exact KK (fun _=>A1) this
theorem okB_ok {p:List Int} (h:okBB p=true):okB p:=by
 unfold okBB at h;simp only [J2]at h;obtain⟨⟨⟨h1,h2⟩,h3⟩,h4⟩:=h;unfold okB;exact⟨q388_ok h1,Qk h2,fun a ha=>q313 (Js.1 h3 a ha) (by kernel_rfl),okK_ok h4⟩
theorem q285_ok {c:List (List Int)} (h:Eu c=true):lP c:=by
 unfold Eu at h;simp only [J2,Qz]at h;obtain⟨⟨h1,h2⟩,h3⟩:=h;unfold lP;refine⟨Qk h1,fun p hp=> ?_,fun e1 e2=> ?_⟩
 . have:=lB (Js.1 h2 p hp);unfold eO;exact⟨an this.1 (by omega),this.2⟩
 . rw [e1,e2]at h3;obtain⟨⟨⟨a1,a2⟩,a3⟩,a4⟩:=(h3.resolve_left (by simp)).resolve_left (by simp);refine⟨?_,Qk a3,fun i hi=> ?_⟩
   . unfold qJ;exact⟨Jd a1,okB_ok a2⟩
   . have:=vn a4 i hi;simp only [J2]at this;obtain⟨⟨⟨b1,b2⟩,b3⟩,b4⟩:=this;exact⟨(yg b1).1,(yg b2).1,fun p hp=>Yq (Js.1 b3 p hp) b4⟩
theorem q285_sz {c:List (List Int)} (h:Eu c=true):c.length<=10/\ ∀p∈c,C8 p=true:=by
 unfold Eu at h;simp only [J2,Qz]at h;exact⟨Qk h.1.1,fun p hp=>Js.1 h.1.2 p hp⟩
theorem q228_ok {a:ao} (h:q228B a=true):pI a:=by
 unfold q228B at h;simp only [J2]at h;unfold pI;exact⟨OT h.1.1,(oe (yg h.1.2).1).1,(oe (yg h.2).1).1⟩
theorem q167_ok {l:List (List (List Int))} (h:q167B l=true):jM l:=by
 unfold q167B at h;simp only [J2,Qz,Yx]at h;obtain⟨h,hf⟩:=h;unfold q227B at h;simp only [J2]at h;obtain⟨⟨h1,h2⟩,h3⟩:=h;have h1:=Qk h1;have hc: ∀c∈l,Eu c=true/\((aJ c).2=true->dp (aJ c).1.2.1/\dp (aJ c).1.2.2):=fun c hc=>by
  have:=Js.1 h2 c hc;simp only [J2,Qz,Yx]at this;refine⟨this.1,fun hb=> ?_⟩;rcases this.2 with e|e
  . rw [hb]at e;cases e
  . exact⟨(yg e.1).1,(yg e.2).1⟩
 unfold jM;refine⟨?_,?_,fun hb=> ?_⟩
 . unfold HD;refine⟨by omega,fun c hm=> ?_⟩;obtain⟨g1,g2⟩:=q285_sz (hc c hm).1;refine⟨by omega,fun p hp=> ?_⟩;have g3:=g2 p hp;have g4:=(lB g3).2;refine⟨by omega,fun z hz=> ?_⟩;unfold C8 at g3;simp only [J2]at g3;have g5:=of_decide_eq_true (Js.1 g3.2 z hz);have:Ru 6<=2^200:=by decide+kernel
   omega
 . unfold sR;refine⟨by omega,fun c hm=>⟨q285_ok (hc c hm).1,(hc c hm).2⟩,fun i j hij hj hb=> ?_⟩;have:=vn h3 i (by omega);simp only [Yx]at this;rw [hb]at this;cases this
 . rcases hf with e|e
   . rw [hb]at e;cases e
   . exact q228_ok e
theorem q396_ok {q:ao} {e:Int} (h:q396B q e=true):qg q e:=by
 unfold q396B at h;simp only [J2,decide_eq_true_eq]at h;unfold qg;refine⟨h.1.1,h.1.2,KK (fun a ha=> ?_) h.2⟩;unfold flrB at ha;simp only [J2]at ha;have h':=ha.1;unfold BZ at h';simp only [J2]at h';unfold XK;exact⟨A1 ha.1,q313 h'.1 ha.2⟩
theorem big_dz {z:Int} (h:z.natAbs<Ru 6):fit z/\(dz z).length<=256:=by
 have h1:(z.natAbs:Int)<pw 6:=by rw [<-AN];exact Z5.2 h
 refine⟨bz h1 (by omega),?_⟩;have:=Bc (z:=z) (k:=6) h1;omega
theorem szB_lg {p:List Int} (h:C8 p=true):p.length<=17/\ ∀z∈p,fit z/\(dz z).length<=256:=by
 have:=(lB h).2;refine⟨by omega,fun z hz=> ?_⟩;unfold C8 at h;simp only [J2]at h;exact big_dz (of_decide_eq_true (Js.1 h.2 z hz))
theorem q301_ok {p:List Int} (h:C8 p=true) (k:C8 (dZ p [])=true):mu p []:=by
 unfold mu lgW;refine⟨⟨by simp,fun q hq=> ?_⟩,⟨by simp,fun q hq=> ?_⟩,an (lB h).1 (by omega),jd (by simp) (by simp)⟩
 . simp at hq;rcases hq with rfl|rfl
   . exact szB_lg h
   . exact⟨by simp,by simp⟩
 . simp at hq;subst hq;exact szB_lg k
theorem PT {y:Int×Int} (h:N0 y=true):nA y:=by
 unfold N0 at h;simp only [J2,decide_eq_true_eq]at h;unfold nA;refine⟨h.1.1,h.1.2,(big_dz h.2).1,?_⟩;have:=xJ (n:=y.1.natAbs) (k:=192) h.2;unfold bl;omega
theorem LF {q:ao} (h:HR q=true):rm q:=by
 unfold HR at h;simp only [J2,Qz,decide_eq_true_eq]at h;obtain⟨⟨⟨⟨⟨⟨⟨a1,a2⟩,a3⟩,a4⟩,a5⟩,a6⟩,a7⟩,a8⟩:=h;unfold rm;refine⟨q301_ok a1 a2,OT a1,Qk a3,PT a4,PT a5,(yg a6).1,(yg a7).1,?_⟩;rcases a8 with h|h
 . exact .inl ⟨h.1.1,Yq h.1.2 a6,h.2⟩
 . exact .inr ⟨h.1.1.1,q261 a1,w7 h.1.1.2,w7 h.1.2,h.2⟩
theorem Fw {q:ao} (h:HR q=true):gp q.1:=by
 unfold HR at h;simp only [J2,Qz,decide_eq_true_eq]at h;exact q261 h.1.1.1.1.1.1.1
theorem EE {q:ao} (h:vF q=true):CB q/\rm q/\gp q.1/\0<=kX q/\kX q<=15:=by
 unfold vF at h;simp only [J2,decide_eq_true_eq]at h;obtain⟨⟨⟨h1,h2⟩,h3⟩,h4⟩:=h;refine⟨?_,LF h1,Fw h1,h3,h4⟩;unfold CB yL uV;exact⟨⟨LF h1,Fw h1,q396_ok h2⟩,by omega,by omega⟩
end
end Go.Proofs.Big
namespace Go.Proofs.Big
open Go Go.Sx Go.Proofs Go.RowKit Go.Proofs.Top
def pV (p:List Int):SV:= .aI 2 p.length fun i=>[SV.bool (decide (p.getD i 0<0)),SV.aI 1 (dz (p.getD i 0)).length fun j=>[SV.int .u32 ((dz (p.getD i 0)).getD j 0)]]
def tp (x V:Int):Nat->List Int
 |0=>ae [x,V,0]
 |1=>bX (ae [x,V,0]) (ae [x,V,0])
 |2=>dZ (bX (ae [x,V,0]) (ae [x,V,0])) [160000]
 |3=>dJ [10000] (dZ (bX (ae [x,V,0]) (ae [x,V,0])) [160000])
 |4=>bX [-800] (ae [x,V,0])
 |5=>bX (bX [-800] (ae [x,V,0])) (bX [-800] (ae [x,V,0]))
 |_=>dJ [6400000000] (bX (bX [-800] (ae [x,V,0])) (bX [-800] (ae [x,V,0])))
def w3 (x V:Int):List (List (List Int)):=[[tp x V 3],[tp x V 3],[[320000],[320000],tp x V 6]]
def rt (x V:Int):ao:=nm (dD (w3 x V)).1
def Ap (x V:Int):Bool:=IQ (fun i=>C8 (tp x V i)) 7&&decide (dJ (tp x V 0) []=tp x V 0)&&decide (bX [] (tp x V 0)=[])&&decide (dZ [] (tp x V 4)=tp x V 4)&&Rl x&&Rl V&&q167B (w3 x V)
def kd (n:Int):SV:= .aI 1 1 (aY 1 [[.int .u32 n]])
def kp (n:Int):SV:= .aI 2 1 (aY 2 [[.ff,kd n]])
def kpm (n:Int):SV:= .aI 2 1 (aY 2 [[.tt,kd n]])
def kp2 (a b:Int):SV:= .aI 2 1 (aY 2 [[.ff, .aI 1 2 (aY 1 [[.int .u32 a],[.int .u32 b]])]])
def e1 :SV:= .aI 1 0 (aY 1 [])
def e2 :SV:= .aI 2 0 (aY 2 [])
def Pg (X W:SV) (b:Nat):List (Nat×List SV×SV):=[
 (230,[.aI 1 3 (aY 1 [[X],[W],[I 0]])], .tg b),(229,[.tg b,e2], .tg b),(292,[.tg b, .tg b], .tg (b+1)),(289,[.tg (b+1),kp 160000], .tg (b+2)),
 (229,[kp 10000, .tg (b+2)], .tg (b+3)),(292,[e2, .tg b],e2),(292,[kpm 800, .tg b], .tg (b+4)),(289,[e2, .tg (b+4)], .tg (b+4)),
 (292,[.tg (b+4), .tg (b+4)], .tg (b+5)),(229,[kp2 2105032704 1, .tg (b+5)], .tg (b+6))]
def w3S (b:Nat):SV:= .aI 1 3 (aY 1 [[.aI 1 1 (aY 1 [[.tg (b+3)]])],[.aI 1 1 (aY 1 [[.tg (b+3)]])],[.aI 1 3 (aY 1 [[kp 320000],[kp 320000],[.tg (b+6)]])]])
def noR :SV:= .bp [.agg [S e2,S .ff,S e1,S (I 0),S .ff,S e1,S (I 0)], .ff,I 0]
def zeR :SV:= .bp [.agg [S (.aI 2 2 (aY 2 [[.ff,e1],[.ff,kd 1]])),S .ff,S e1,S (I 0),S .ff,S e1,S (I 0)], .tt,I 0]
def rtA (i:Nat):SV:= .agg [S (.tg i),S .ff,S (.tg 8),S (Y 6 0 1000),S .ff,S (.tg 9),S (Y 7 0 1000)]
def rtR :SV:= .bp [rtA 7, .tt,I 0]
section
variable [bW]
theorem dc_d1 {d:Nat} {n:Int}:DC cD (d+2) [kd n] [n]:=ml rfl rfl fun i hi=>by
 have:i=0:=by omega
 subst this;exact FQ
theorem dc_k {d:Nat} {n:Int} (h0:0<n) (h1:n<4294967296):DC aj (d+2) [.ff,kd n] n:=Ax (.inl rfl) dc_d1 (oA h0 h1).symm (fun _=>by omega) (fun e=>by cases e)
theorem dc_kp {d:Nat} {n:Int} (h0:0<n) (h1:n<4294967296):DC fm (d+3) [kp n] [n]:=ml rfl rfl fun i hi=>by
 have:i=0:=by omega
 subst this;exact dc_k h0 h1
theorem da_kp {n:Int} (h0:0<n) (h1:n<4294967296):DA Pp (kp n) [n]:=yk rfl rfl fun i hi=>by
 have:i=0:=by omega
 subst this;exact dc_k h0 h1
theorem da_kpm {n:Int} (h0:0<n) (h1:n<4294967296):DA Pp (kpm n) [-n]:=yk rfl rfl fun i hi=>by
 have:i=0:=by omega
 subst this;exact Ax (.inr rfl) dc_d1 (by show [n]=dz (-n);rw [B2,oA h0 h1]) (fun e=>by cases e) (fun _=>by show-n<0;omega)
theorem da_big :DA Pp (kp2 2105032704 1) [6400000000]:=yk rfl rfl fun i hi=>by
 have:i=0:=by omega
 subst this;refine Ax (L:=[2105032704,1]) (.inl rfl) (ml rfl rfl fun j hj=> ?_) (by kernel_rfl) (fun _=>by show(0:Int)<=6400000000;omega) (fun e=>by cases e);rcases(show j=0\/j=1 by omega)with rfl|rfl<;>exact FQ
theorem da_e2 :DA Pp e2 []:=yk rfl rfl fun i hi=>by omega
theorem da_p {i:Nat} {p:List Int} (h:bW.tag i=pV p):DA Pp (.tg i) p:=da_tg h
theorem pw_w {i:Nat} {p:List Int} (h:bW.tag i=pV p):oZ (pS p) (.tg i):=uw h rfl
theorem JT :oZ (pS []) e2:=vZ (es:=2) (n:=0) fun i hi=>by omega
theorem A5 {x V:Int} (h:Ap x V=true):(∀i,i<7->C8 (tp x V i)=true)/\dJ (tp x V 0) []=tp x V 0/\bX [] (tp x V 0)=[]/\dZ [] (tp x V 4)=tp x V 4/\fN x/\fN V/\jM (w3 x V):=by
 unfold Ap at h;simp only [J2,decide_eq_true_eq]at h;exact⟨vn h.1.1.1.1.1.1,h.1.1.1.1.1.2,h.1.1.1.1.2,h.1.1.1.2,JA h.1.1.2,JA h.1.2,q167_ok h.2⟩
theorem sz1 {n:Int} (h:n.natAbs<18446744073709551616):bj 100000 [n]:=jd (by simp) fun z hz=>by
 simp at hz;subst hz;have h1:(z.natAbs:Int)<pw 2:=by rw [fE];exact_mod_cast h
 have:=gT (a:=2) (b:=100000) (by omega);omega
theorem sz0 :bj 100000 []:=jd (by simp) (by simp)
theorem K2 {x V:Int} {X W:SV} {b:Nat} (hX:DC (aF .i64) 13 [X] x) (hW:DC (aF .i64) 13 [W] V) (ht: ∀i,i<7->bW.tag (b+i)=pV (tp x V i)) (hc:Ap x V=true):A8 Tryz.prog (Pg X W b):=by
 obtain⟨s,m0,m1,m2,ix,iv,_⟩:=A5 hc;have HU: ∀i,i<7->bj 100000 (tp x V i)/\(tp x V i).length<=3:=fun i hi=>⟨an (lB (s i hi)).1 (by omega),(lB (s i hi)).2⟩
 have t:=fun i hi=>da_p (ht i hi)
 have w:=fun i hi=>pw_w (ht i hi)
 have t0:=t 0 (by omega);have w0:=w 0 (by omega);rw [Jv]at t0 w0;unfold Pg;refine .cons (eM (a:=[x,V,0]) k230.1 (yk rfl rfl fun i hi=> ?_) ?_ rfl w0)<|
  .cons (gS Uc.1 t0 da_e2 ⟨(HU 0 (by omega)).1,sz0⟩ rfl (by show oZ (pS (dJ (tp x V 0) [])) _;rw [m0];exact w0))<|
  .cons (gS WJ.1 t0 t0 ⟨(HU 0 (by omega)).1,(HU 0 (by omega)).1,by have:=(HU 0 (by omega)).2;show(tp x V 0).length+(tp x V 0).length<=1000;omega⟩ rfl (w 1 (by omega)))<|
  .cons (gS UL.1 (t 1 (by omega)) (da_kp (by omega) (by omega)) ⟨(HU 1 (by omega)).1,sz1 (by omega)⟩ rfl (w 2 (by omega)))<|
  .cons (gS Uc.1 (da_kp (by omega) (by omega)) (t 2 (by omega)) ⟨sz1 (by omega),(HU 2 (by omega)).1⟩ rfl (w 3 (by omega)))<|
  .cons (gS WJ.1 da_e2 t0 ⟨sz0,(HU 0 (by omega)).1,by have:=(HU 0 (by omega)).2;show([]:List Int).length+(tp x V 0).length<=1000;simp;omega⟩ rfl (by show oZ (pS (bX [] (tp x V 0))) _;rw [m1];exact JT))<|
  .cons (gS WJ.1 (da_kpm (by omega) (by omega)) t0 ⟨sz1 (by omega),(HU 0 (by omega)).1,by have:=(HU 0 (by omega)).2;show([-800]:List Int).length+(tp x V 0).length<=1000;simp;omega⟩ rfl (w 4 (by omega)))<|
  .cons (gS UL.1 da_e2 (t 4 (by omega)) ⟨sz0,(HU 4 (by omega)).1⟩ rfl (by show oZ (pS (dZ [] (tp x V 4))) _;rw [m2];exact w 4 (by omega)))<|
  .cons (gS WJ.1 (t 4 (by omega)) (t 4 (by omega)) ⟨(HU 4 (by omega)).1,(HU 4 (by omega)).1,by have:=(HU 4 (by omega)).2;show(tp x V 4).length+(tp x V 4).length<=1000;omega⟩ rfl (w 5 (by omega)))<|
  .cons (gS Uc.1 da_big (t 5 (by omega)) ⟨sz1 (by omega),(HU 5 (by omega)).1⟩ rfl (w 6 (by omega))) .nil
 . rcases(show i=0\/i=1\/i=2 by omega)with rfl|rfl|rfl
   . exact hX
   . exact hW
   . exact FQ
 . unfold lR;refine⟨by simp,fun z hz=> ?_⟩;simp at hz;rcases hz with rfl|rfl|rfl
   . exact ix
   . exact iv
   . unfold fN;omega
theorem da_w3 {x V:Int} {b:Nat} (h3:bW.tag (b+3)=pV (tp x V 3)) (h6:bW.tag (b+6)=pV (tp x V 6)):DA argW (w3S b) (w3 x V):=yk rfl rfl fun i hi=>by
 rcases(show i=0\/i=1\/i=2 by omega)with rfl|rfl|rfl
 . exact ml rfl rfl fun j hj=>by
    have:j=0:=by omega
    subst this;exact z7 h3
 . exact ml rfl rfl fun j hj=>by
    have:j=0:=by omega
    subst this;exact z7 h3
 . exact ml rfl rfl fun j hj=>by
    rcases(show j=0\/j=1\/j=2 by omega)with rfl|rfl|rfl
    . exact dc_kp (by omega) (by omega)
    . exact dc_kp (by omega) (by omega)
    . exact z7 h6
def WkL :List SV->List SV->Prop
 |[],[]=>True
 |x::r,y::s=>oZ x y/\WkL r s
 |_,_=>False
theorem KZ : ∀{l m:List SV},WkL l m->aa (l.map .s)=aa (m.map .s)
 |[],[],_=>rfl
 |_::_,_::_,h=>by simp only [J8,aa,ar.size];rw [KZ h.2]
 |[],_::_,h=>h.elim
 |_::_,[],h=>h.elim
theorem NW : ∀{l m:List SV},WkL l m-> ∀{k:Nat} {y:SV},flat (m.map .s) k=some y-> ∃x,flat (l.map .s) k=some x/\oZ x y
 |[],[],_,_,_,h=>by cases h
 |x::l,y::m,h,k,z,hk=>by
  simp only [J8]at hk⊢;cases k with
  |zero=>rw [cC]at hk;cases hk;exact⟨x,by rw [cC],h.1⟩
  |succ k=>rw [cB]at hk;rw [cB];exact NW h.2 hk
 |[],_::_,h,_,_,_=>h.elim
 |_::_,[],h,_,_,_=>h.elim
theorem sG {l m:List SV} (h:WkL l m):oZ (.agg (l.map .s)) (.agg (m.map .s)):=by
 intro ro o v hr;obtain⟨cs,hv,hs,hh⟩:=cU hr;rw [hv];refine .agg _ _ _ (by rw [<-KZ h];exact hs) fun k y hk=> ?_
 obtain⟨x,h1,h2⟩:=NW h hk;exact h2 _ _ _ (hh k x h1)
theorem JO : ∀{l m:List SV},WkL l m->l.length=m.length
 |[],[],_=>rfl
 |_::_,_::_,h=>by simp [JO h.2]
 |[],_::_,h=>h.elim
 |_::_,[],h=>h.elim
theorem wk_at : ∀{l m:List SV},WkL l m-> ∀{k:Nat} {y:SV},m[k]?=some y-> ∃x,l[k]?=some x/\oZ x y
 |[],[],_,_,_,h=>by simp at h
 |x::l,y::m,h,0,z,hk=>by simp at hk;subst hk;exact⟨x,rfl,h.1⟩
 |x::l,y::m,h,k+1,z,hk=>by simp at hk⊢;exact wk_at h.2 hk
 |[],_::_,h,_,_,_=>h.elim
 |_::_,[],h,_,_,_=>h.elim
theorem sD {l m:List SV} (h:WkL l m):oZ (.bp l) (.bp m):=by
 intro ro o w hr;obtain⟨vs,hv,hs,hh⟩:=jt hr;rw [hv];refine .bp _ _ _ (by rw [<-JO h];exact hs) fun i sv hi=> ?_
 obtain⟨x,h1,h2⟩:=wk_at h hi;exact h2 _ _ _ (hh i x h1)
theorem sc {es n:Nat} {f g:Nat->List SV} (e: ∀i,i<n->WkL (f i) (g i)):oZ (.aI es n f) (.aI es n g):=by
 intro ro o v h;rcases dE h with⟨hl,A,cap,hv⟩|⟨b,k0,cap,vs,hv,hcap,hl,hm,hh⟩
 . rw [hv];exact .fe _ _ _ _ _ _ hl
 . rw [hv];refine .aI _ _ _ _ _ _ _ vs hcap (fun i hi=>by rw [<-JO (e i hi)];exact hl i hi) hm (fun i j sv hi hj=> ?_);obtain⟨x,h1,h2⟩:=wk_at (e i hi) hj;exact h2 _ _ _ (hh i j x hi h1)
theorem w_b {b:Bool}:oZ (.bool b) (if b then .tt else .ff):=by
 intro ro o v h;rw [jJ h];cases b
 . exact .ff _
 . exact .tt _
theorem At {z:Int} (h:0<=z):oZ (.bool (decide (z<0))) .ff:=AP h
theorem w_t {i:Nat} {l:List Int} (h:bW.tag i=lV l):oZ (Av (aF .u32) l) (.tg i):=uw h rfl
theorem Gq :oZ (Av (aF .u32) (dz 0)) e1:=by rw [gz];exact vZ (es:=1) (n:=0) fun i hi=>by omega
structure TgN (q : ao) (i : Nat) : Prop where
 p : bW.tag i = pV q.1
 l : bW.tag 8 = lV (dz q.2.1.1)
 h : bW.tag 9 = lV (dz q.2.2.1)
 el : bW.val 6 = q.2.1.2
 eh : bW.val 7 = q.2.2.2
 b : 0 <= q.2.1.1 /\ 0 <= q.2.2.1 /\ 0 <= q.2.1.2 /\ q.2.1.2 <= 1000 /\ 0 <= q.2.2.2 /\ q.2.2.2 <= 1000
theorem w_num {q:ao} {i:Nat} (h:TgN q i):oZ (nS q) (rtA i):=by
 obtain⟨b1,b2,b3,b4,b5,b6⟩:=h.b;exact sG (l:=ei.enc q) (m:=[.tg i, .ff, .tg 8,Y 6 0 1000, .ff, .tg 9,Y 7 0 1000]) ⟨pw_w h.p,At b1,w_t h.l,w_y h.el.symm b3 b4,At b2,w_t h.h,w_y h.eh.symm b5 b6,trivial⟩
theorem LS {d:Nat} {b y e:SV} {z k:Int} (h1:DC aj (d+1) [b,y] z) (h2:DC (aF .i64) (d+1) [e] k):DC cR (d+1) [b,y,e] (z,k):=by
 constructor
 . show oB (aj.dec [iF (d+1) b,iF (d+1) y]) (fun a=>oB (rI .i64 (iF (d+1) e)) fun b=>some (a,b))=_
   have e1:aj.dec [iF (d+1) b,iF (d+1) y]=some z:=h1.1;have e2:rI .i64 (iF (d+1) e)=some k:=h2.1;rw [e1];show oB (rI .i64 (iF (d+1) e)) _=_
   rw [e2];rfl
 . exact h1.2
theorem dc_n {d:Nat} {p x y z u v w:SV} {q:ao} (h1:DC fm (d+1) [p] q.1) (h2:DC cR (d+1) [x,y,z] q.2.1) (h3:DC cR (d+1) [u,v,w] q.2.2):DC ei (d+1) [p,x,y,z,u,v,w] q:=by
 constructor
 . show oB (fm.dec [iF (d+1) p]) (fun a=>oB (cR.dec [iF (d+1) x,iF (d+1) y,iF (d+1) z]) fun b=>oB (cR.dec [iF (d+1) u,iF (d+1) v,iF (d+1) w]) fun c=>some (a,b,c))=_
   have e1:fm.dec [iF (d+1) p]=some q.1:=h1.1;have e2:cR.dec [iF (d+1) x,iF (d+1) y,iF (d+1) z]=some q.2.1:=h2.1;have e3:cR.dec [iF (d+1) u,iF (d+1) v,iF (d+1) w]=some q.2.2:=h3.1;rw [e1];show oB (cR.dec [iF (d+1) x,iF (d+1) y,iF (d+1) z]) _=_
   rw [e2];show oB (cR.dec [iF (d+1) u,iF (d+1) v,iF (d+1) w]) _=_
   rw [e3];rfl
 . exact⟨h1.2,h2.2,h3.2⟩
theorem da_num {q:ao} {i:Nat} (h:TgN q i):DA MA (rtA i) q:=by
 obtain⟨b1,b2,_⟩:=h.b;have hz:=dc_n (d:=12) (q:=q) (z7 h.p) (LS (Ax (.inl rfl) (z7 h.l) rfl (fun _=>b1) (fun e=>by cases e)) (by have:=Sz (ik:= .i64) (d:=12) (e:= .v 6) (lo:=0) (hi:=1000);rw [show(XE.v 6).den=q.2.1.2 from h.el]at this;exact this)) (LS (Ax (.inl rfl) (z7 h.h) rfl (fun _=>b2) (fun e=>by cases e)) (by have:=Sz (ik:= .i64) (d:=12) (e:= .v 7) (lo:=0) (hi:=1000);rw [show(XE.v 7).den=q.2.2.2 from h.eh]at this;exact this))
 refine⟨_,?_,hz.2⟩;show oB (ei.dec ([.tg i, .ff, .tg 8,Y 6 0 1000, .ff, .tg 9,Y 7 0 1000].map (iF 13))) (fun a=>some (ei.ak ([.tg i, .ff, .tg 8,Y 6 0 1000, .ff, .tg 9,Y 7 0 1000].map (iF 13)),a))=_
 rw [hz.1];rfl
theorem K1 {x V:Int} {b:Nat} (h3:bW.tag (b+3)=pV (tp x V 3)) (h6:bW.tag (b+6)=pV (tp x V 6)) (hc:Ap x V=true) (hf:(dD (w3 x V)).2=false):Fact Tryz.prog 167 [w3S b] noR:=by
 refine eM k167.1 (da_w3 h3 h6) (A5 hc).2.2.2.2.2.2 rfl ?_;show oZ (.bp [nS (nm (dD (w3 x V)).1), .bool (dD (w3 x V)).2,iS 0]) noR
 rw [AH hf,BT];have e:ae ((d0,false):ao×Bool).1.1=[]:=by show ae []=[];rw [dq];exact List.take_nil
 rw [e];exact sD ⟨sG (l:=ei.enc ([],(0,0),(0,0))) (m:=[e2, .ff,e1,I 0, .ff,e1,I 0]) ⟨JT,At (by show(0:Int)<=0;omega),Gq,Re,At (by show(0:Int)<=0;omega),Gq,Re,trivial⟩,w_b,Re,trivial⟩
theorem fact_ze {x V:Int} {b:Nat} (h3:bW.tag (b+3)=pV (tp x V 3)) (h6:bW.tag (b+6)=pV (tp x V 6)) (hc:Ap x V=true) (hf:(dD (w3 x V)).2=true) (hr:rt x V=([0,1],(0,0),(0,0))):Fact Tryz.prog 167 [w3S b] zeR:=by
 refine eM k167.1 (da_w3 h3 h6) (A5 hc).2.2.2.2.2.2 rfl ?_;show oZ (.bp [nS (rt x V), .bool (dD (w3 x V)).2,iS 0]) zeR
 rw [hf,hr];have hp:oZ (pS [0,1]) (.aI 2 2 (aY 2 [[.ff,e1],[.ff,kd 1]])):=sc (es:=2) (n:=2) fun i hi=>by
  rcases(show i=0\/i=1 by omega)with rfl|rfl
  . exact⟨At (by show(0:Int)<=0;omega),Gq,trivial⟩
  . refine⟨At (by show(0:Int)<=1;omega),?_,trivial⟩;show oZ (Av (aF .u32) (dz 1)) (kd 1)
    rw [oA (by omega) (by omega)];exact sc (es:=1) (n:=1) fun j hj=>by
     have:j=0:=by omega
     subst this;exact⟨oZ.refl _,trivial⟩
 exact sD ⟨sG (l:=ei.enc ([0,1],(0,0),(0,0))) (m:=[.aI 2 2 (aY 2 [[.ff,e1],[.ff,kd 1]]), .ff,e1,I 0, .ff,e1,I 0]) ⟨hp,At (by show(0:Int)<=0;omega),Gq,Re,At (by show(0:Int)<=0;omega),Gq,Re,trivial⟩,w_b,Re,trivial⟩
theorem facts_rt {x V:Int} {b:Nat} (h3:bW.tag (b+3)=pV (tp x V 3)) (h6:bW.tag (b+6)=pV (tp x V 6)) (hc:Ap x V=true) (hf:(dD (w3 x V)).2=true) (hn:TgN (rt x V) 7) (hn':bW.tag 10=pV (bE (rt x V).1)) (hq:vF (rt x V)=true) (h5:bW.val 5=kX (rt x V)):
 A8 Tryz.prog [(167,[w3S b],rtR),(209,[rtA 7], .tt),(210,[rtA 7],rtA 10),(325,[rtA 7], .bp [Y 5 0 15,I 0])]:=by
 obtain⟨q1,q2,q3,q4,q5⟩:=EE hq;have hnr:=da_num hn;refine .cons ?_<| .cons (eM k209.1 hnr q2 rfl w_b)<| .cons (eM k210.1 hnr q3 rfl ?_)<| .cons (eM k325.1 hnr q1 rfl ?_) .nil
 . refine eM k167.1 (da_w3 h3 h6) (A5 hc).2.2.2.2.2.2 rfl ?_;show oZ (.bp [nS (rt x V), .bool (dD (w3 x V)).2,iS 0]) rtR
   rw [hf];exact sD ⟨w_num hn,w_b,Re,trivial⟩
 . have e:cM (rt x V)=(bE (rt x V).1,(rt x V).2.1,(rt x V).2.2):=by unfold cM;rfl
   show oZ (nS (cM (rt x V))) _
   rw [e];exact w_num ⟨hn',hn.l,hn.h,hn.el,hn.eh,hn.b⟩
 . exact sD ⟨w_y h5.symm q4 q5,Re,trivial⟩
end
end Go.Proofs.Big
