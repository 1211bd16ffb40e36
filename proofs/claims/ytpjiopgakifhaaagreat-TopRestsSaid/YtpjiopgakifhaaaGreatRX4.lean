import Derived.Test.YtpjiopgakifhaaaGreatRA
import Derived.Test.YtpjiopgakifhaaaGreatRU
import Derived.Test.YtpjiopgakifhaaaGreatRI
import Derived.Test.YtpjiopgakifhaaaGreatRG
import Derived.Test.YtpjiopgakifhaaaGreatRJ
import Derived.Test.YtpjiopgakifhaaaGreatRX
import Derived.Test.YtpjiopgakifhaaaGreatRW
set_option linter.unusedSectionVars false
set_option linter.unusedSimpArgs false
set_option linter.unusedVariables false
set_option maxRecDepth 100000
namespace Go.Proofs.Big
open Go Go.Sx Go.Proofs Go.RowKit Go.Proofs.Top Tryz
abbrev I(n:Int):SV:=.int .i64 n
abbrev S(v:SV):ar:=.s v
abbrev Y(i:Nat)(b c:Int):SV:=.sy .i64 (.v i) b c
def Pz{α:Type}(rd:List SV->Option α)(b:α->Prop)(args:α->List SV)(c:α->SV):bB:=λl=>match rd l with
 |some a=>some (uP pk eL l (args a)/\b a,c a)
 |none=>none
theorem fn_of {α:Type} [bW] {f:Nat} {rd:List SV->Option α} {pre:α->Prop} {args:α->List SV} {res:α->SV} (hf:∃fn,prog.funcs[f]?=some fn/\fn.body.isSome=true/\(fn.name== "runtime.NumGoroutine")=false)
 (H:∀a,pre a->Oc prog f (args a) (res a)):cS prog f (Pz rd pre args res):=by
 refine⟨hf,λl p r hc hp R w vals hR hrel=>?_⟩;unfold Pz at hc;split at hc
 case h_2=>cases hc
 simp only[J3,Q4]at hc;obtain⟨rfl,rfl⟩:=hc;obtain⟨h1,h2⟩:=hp;refine(H _ h2 R w vals hR (kR (own':=Own.empty) h1 hrel)).mono ?_;rintro e w' ⟨v,R',k1,k2,k3⟩;exact⟨v,R',k1,k2,k3⟩
def vc2(x y:Int):SV:=.agg [.s (.int .i64 x),.s (.int .i64 y)]
def ar270(x:Int):List SV:=[vc2 0 x,vc2 0 0,vc2 0 1]
def am270:List SV:=[.agg [S (I 0),S (Y 1 (-1000) (-1))],.agg [S (I 0),S (I 0)],.agg [S (I 0),S (I 1)]]
theorem m270[bW]:cF XT 300 270 f270 am270 .tt=true:=by kernel_rfl
@[reducible] def rhoX(x:Int):bW:=⟨λ_=>x,λ_=>.bF 1 0 λ_=>[],λ_=>rfl⟩
theorem ca270[b:bW]{x:Int}(h: -1000<=x/\x<= -1):Oc prog 270 (ar270 x) .tt:=by
 have c: @Fact (rhoX x) prog 270 am270 .tt:=by
  letI:=rhoX x
  exact au okT hm (by unfold XT;kernel_rfl) m270
 have ev:∀i, @bW.val (rhoX x) i=x:=λ_=>rfl
 refine fact_swap (rhoX x) b 14 c (by kernel_rfl) rfl rfl ?_ ?_ ?_
 . refine⟨@vh (rhoX x) 14 _ ?_, @vh (rhoX x) 14 _ ?_, @vh (rhoX x) 14 _ ?_,trivial⟩
   all_goals simp[G0,wK,XE.den,ev]
   omega
 . refine⟨oc ?_,oc ?_,oc ?_,trivial⟩<;>simp[oS,wK,vc2]
 . exact oc (by simp[oS])
def c270:bB:=Pz (λl=>match l with|[.agg (_:: .s (.int _ x)::_),_,_]=>some x|_=>none) (λx=> -1000<=x/\x<= -1) ar270 λ_=>.tt
theorem f270_fn[bW]:cS prog 270 c270:=fn_of ⟨f270,func270,by kernel_rfl,by kernel_rfl⟩ λ_ h=>ca270 h
end Go.Proofs.Big
namespace Go.Proofs.Big
open Go Go.Sx Go.Proofs Tryz
variable [bW]
set_option maxHeartbeats 4000000
attribute [local irreducible] lm nv tl dg dz
def sg270:iR Int where
 n:=3
 enc:=ar270
 dec l:=match l with
  |[.agg (_:: .s (.int _ x)::_),_,_]=>some (uP pk eL l (ar270 x),x)
  |_=>none
 ok l p a h hp:=by
  dsimp only at h;split at h
  . simp only[J3,Q4]at h;obtain⟨rfl,rfl⟩:=h;exact⟨hp,rfl⟩
  . cases h
def sIII2:=iR.cons (DN .i64) (iR.cons (DN .i64) sI)
def C7(c r n:Int):Prop:=0<=c/\c<=20000000/\r=100/\n=1000000
def pre276(x:Int):Prop:= -1000<=x/\x<= -1
def Ge(v s b:Int):Prop:=∃k:Nat,k<=23/\b=2^k/2/\s=v/2^k*2^k
def loE(p v h:Int):Int:=min p (p+v+h)
def hiE(p v h:Int):Int:=if 0<v/\v< -2*h then max (max p (p+v+h)) (p+(v*v-4*h-1).tdiv (-4*h))else max p (p+v+h)
def pre297(p v h:Int):Prop:=0<=p/\p<=2000/\ -400<=v/\v<=400/\ -30<=h/\h<= -1
attribute [irreducible] C7 pre276 Ge loE hiE pre297
def c240:bB:=λargs=>(Top.Ct args).map λr=>(True,r)
def c39:bB:=λargs=>(Top.R6 args).map λr=>(True,r)
def c38:bB:=λargs=>(Top.R4 args).map λr=>(True,r)
def T240:List (Nat×bB):=[(270,c270),(240,c240),(39,c39),(38,c38)]
def c197:bB:=ow sIII2.dec (λa=>C7 a.1 a.2.1 a.2.2) (λa=>.bool (decide (a.1*a.1<a.2.1*a.2.1*a.2.2)))
def T197:List (Nat×bB):=(197,c197)::T240
def vc197(c:Int)(r:Int)(n:Int):Prop:=fQ T240 f197 [] [iS c,iS r,iS n] (.bool (decide (c*c<r*r*n)))
def c276:bB:=ow sg270.dec (λa=>pre276 a) (λa=>iS (-a))
def T276:List (Nat×bB):=(276,c276)::T197
def a276(x:Int):List kM:=[⟨.unit,.list [.int .i64 (.tm 11),.int .i64 (.tm 12)],λ_ (s:Int×Int)=>Ge (-x) s.1 s.2,λ_ (s:Int×Int)=>s.2.toNat⟩]
def vc276(x:Int):Prop:=fQ T197 f276 (a276 x) [vc2 0 x,vc2 0 0,vc2 0 1] (iS (-x))
def c297:bB:=ow sIII2.dec (λa=>pre297 a.1 a.2.1 a.2.2) (λa=>.df [iS (loE a.1 a.2.1 a.2.2),iS (hiE a.1 a.2.1 a.2.2)])
def T297:List (Nat×bB):=(297,c297)::T276
def vc297(p:Int)(v:Int)(h:Int):Prop:=fQ T276 f297 [] [iS p,iS v,iS h] (.df [iS (loE p v h),iS (hiE p v h)])
theorem vc197_eq(c:Int)(r:Int)(n:Int):(
 let d:=λ(x y u:Int)=>decide (Top.wa (U x) (U x)<Top.wa (U (W (y*y))) (U u))
 let e:=λ(x y u:Int)=>Top.wa (U x) (U x)==Top.wa (U (W (y*y))) (U u)
 ab 9 ((d c r n=true->ab 2 (decide (c*c<r*r*n)=true/\True))/\(d c r n=false->(e c r n=true->ab 2 (decide (U (U c*U c)<U (U (W (r*r))
  *U n))=decide (c*c<r*r*n)/\True))/\(e c r n=false->ab 2 (decide (c*c<r*r*n)=false/\True)))))=vc197 c r n:=by kernel_rfl
theorem vc276_eq(x:Int):(
 let c:=sm (0:Int)
 let q:=c/\c/\True
 let g:=sm (1:Int)
 let r:=(c/\g/\True)/\True
 let d:=λ(x:Int)=>U (W (0-Top.VJ (Top.RV 0 x 0 0) (Top.H6 0 x 0 0) 0 1))
 let e:=λ(x:Int)=>Top.wa (d x) (d x)
 let k:=λ(x:Int)=>sm (U (d x*d x))
 let o:=ab 60 True
 let h:=ar.s (SV.int .i64 0)
 let t:=λ(x:Int)=>List.map ar.shape [h,ar.s (SV.int .i64 x)]
 let u:=List.map ar.shape [h,h]
 let v:=List.map ar.shape [h,ar.s (SV.int .i64 1)]
 let p:=λ(x:Int)=>t x=t x/\(c/\x=x/\True)/\u=u/\q/\v=v/\r
 let w:=λ(x:Int)=>decide (x>0)
 let j:=λ(x m:Int)=>U (U (bits BinOp.or IntKind.i64 x m)*U (bits BinOp.or IntKind.i64 x m))
 let y:=(0:Int)<=(1:Int)
 let f:=λ(x:Int)=>x/2
 let z:=λ(x m s:Int)=>y/\True/\Ge (-x) (bits BinOp.or IntKind.i64 m s) (f s)/\(f s).toNat<s.toNat/\ab 8 (g/\sm (e x)/\k x/\sm (bits BinOp.or
  IntKind.i64 m s)/\sm (f s)/\o)/\p x
 let A:=λ(x m s:Int)=>Top.wa (j x m) 1==e s
 let B:=λ(x m s:Int)=>decide (U (j x m*1)<=U (d s*d s))
 let C:=λ(x m s:Int)=>y/\True/\Ge (-x) m (f s)/\(f s).toNat<s.toNat/\ab 8 (g/\sm (e x)/\k x/\m=m/\sm (f s)/\o)/\p x
 ab (4:Nat) ((((c/\x=x/\True)/\q/\r)/\(-1000:Int)<=x/\x<=(-1:Int))/\ab (10:Nat) (ru true/\ab (6:Nat) ((Ge (-x) (0:Int) (4194304:
  Int)/\ab (8:Nat) (g/\sm (e x)/\k x/\c/\sm (4194304:Int)/\o)/\p x)/\∀(n b:Int),Ge (-x) n b->True/\(w b=true->ab (4:Nat) ((decide
  (Top.wa (j n b) (1:Int)<e x)=true->ab (2:Nat) (z x n b))/\(decide (Top.wa (j n b) (1:Int)<e x)=false->(A n b x=true->True/\(B
  n b x=true->True/\z x n b)/\(B n b x=false->C x n b))/\(A n b x=false->True/\C x n b))))/\(w b=false->ab (2:Nat) (n= -x/\True))))))=vc276 x:=by kernel_rfl
theorem vc297_eq(p:Int)(v:Int)(h:Int):(
 let c:=λ(v:Int)=>decide (v>0)
 let j:=λ(v:Int)=>decide (v<0)=true
 let t:=λ(v m:Int)=>decide (W (0-v)<W (2*m))
 let d:=λ(v:Int)=>W (4*v)
 let e:=λ(v m:Int)=>decide (v<W (-2*m))
 let k:=λ(v:Int)=>W (-4*v)
 let u:=λ(v m b:Int)=>W (v-W ((W (W (W (m*m)+d b)-1)).tdiv (d b)))
 let f:=λ(v m b:Int)=>if W (W (v+m)+b)<v then W (W (v+m)+b)else v
 let w:=λ(v m b:Int)=>(if u v m b<f v m b then u v m b else f v m b)=loE v m b
 let x:=λ(v m b:Int)=>W (v+W ((W (W (W (m*m)-d b)-1)).tdiv (k b)))
 let g:=λ(v m b:Int)=>if W (W (v+m)+b)>v then W (W (v+m)+b)else v
 let y:=λ(v m b:Int)=>(if x v m b>g v m b then x v m b else g v m b)=hiE v m b/\True
 let o:=λ(v m b:Int)=>(w v m b/\g v m b=hiE v m b/\True)/\True
 let q:=λ(v:Int)=>decide (v<0)=false
 let r:=λ(v m b:Int)=>(f v m b=loE v m b/\g v m b=hiE v m b/\True)/\True
 let s:=λ(v m b:Int)=>(j v->(c m=true->True/\(e m v=true->k v≠0/\ab 4 ((f b m v=loE b m v/\y b m v)/\True))/\(e m v=false->ab 3
  (r b m v)))/\(c m=false->ab 4 (r b m v)))/\(q v->ab 4 (r b m v))
 ab 2 ((c h=true->(j v->True/\(t v h=true->d h≠0/\True/\(j h->(c v=true->True/\(e v h=true->k h≠0/\ab 4 ((w p v h/\y p v h)/\True))/\(e
  v h=false->ab 3 (o p v h)))/\(c v=false->ab 4 (o p v h)))/\(q h->ab 4 (o p v h)))/\(t v h=false->s h v p))/\(q v->True/\s h v p))/\(c h=false
  ->True/\s h v p)))=vc297 p v h:=by kernel_rfl
theorem k240:aH prog T240:=⟨f270_fn.x,Top.Oe.x,Top.WN.x,Top.V4.x,trivial⟩
theorem sq_nn(n:Int):0<=n*n:=by
 rcases JV 0 n with h|h
 . exact Ja h h
 . exact Yj h h
theorem lo_half{z:Int}(d:0<=z)(h:z<18446744073709551616):bits .and .u64 z 4294967295=z%4294967296:=by
 have b:bits .and .u64 z 4294967295=IntKind.u64.wrap ((BitVec.ofInt 64 z&&&BitVec.ofInt 64 4294967295).toNat:Int):=rfl;have c:(BitVec.ofInt 64 z&&&BitVec.ofInt 64 4294967295).toNat=z.toNat%2^32:=by
  rw[BitVec.toNat_and,Xu,Xu];rw[show((z%((2^64:Nat):Int)).toNat)=z.toNat by omega,show(((4294967295:Int)%((2^64:Nat):Int)).toNat)=2^32-1 by decide,Nat.and_two_pow_sub_one_eq_mod]
 rw[b,c,Su,ct (by omega) (by omega)];omega
theorem F6{x y:Int}(d:0<=x)(c:x<18446744073709551616)(b:0<=y)(e:y<4294967296):Top.wa x y=(x/4294967296*y+(x%4294967296*y)/4294967296)/4294967296:=by
 unfold Top.wa;simp only[Su];rw[lo_half b (by omega),lo_half d c,show y%4294967296=y by omega,show y/4294967296=0 by omega];have h:0<=x/4294967296:=by omega
 have i:x/4294967296<=4294967295:=by omega
 have j:0<=x%4294967296:=by omega
 have k:x%4294967296<=4294967295:=by omega
 have m:0<=x/4294967296*y:=Ja h b;have o:x/4294967296*y<=4294967295*4294967295:=Qb i (by omega) b (by omega);have d1:0<=x%4294967296*y:=Ja j b;have d2:x%4294967296*y<=4294967295*4294967295:=Qb k (by omega) b (by omega);generalize x/4294967296*y=p at*
 generalize x%4294967296*y=q at*
 simp only[KA];rw[ct (n:=p) (by omega) (by omega),ct (n:=q) (by omega) (by omega),ct (n:=p+q/4294967296) (by omega) (by omega),ct (n:=0) (by omega) (by omega)];rw[lo_half (by omega) (by omega)];rw[show(0:Int)+(p+q/4294967296)/4294967296=(p+q/4294967296)/4294967296 by omega,ct (n:=(p+q/4294967296)/4294967296) (by omega) (by omega)];rw[show(p+q/4294967296)%4294967296+0=(p+q/4294967296)%4294967296 by omega,ct (n:=(p+q/4294967296)%4294967296) (by omega) (by omega)]
 rw[ct (by omega) (by omega)];omega
theorem qC{x y:Int}(d:0<=x)(e:x<4294967296)(b:0<=y)(c:y<4294967296):Top.wa x y=0:=by
 rw[F6 d (by omega) b c,show x/4294967296=0 by omega,show x%4294967296=x by omega];have d1:0<=x*y:=Ja d b;have d2:x*y<=4294967295*4294967295:=Qb (by omega) (by omega) b (by omega);generalize x*y=q at*
 omega
theorem Us{x:Int}(c:0<=x)(b:x<18446744073709551616):Top.wa x 1=0:=by
 rw[F6 c b (by omega) (by omega)];omega
theorem GC{a b:Nat}(h:a<=b):(2:Int)^a<=2^b:=by exact_mod_cast Xv (by omega) h
theorem or_64{u y:Int}{r:Nat}(i:r<=40)(j:0<=u)(b:u<2^r)(c:0<=y)(d:y<=1000000):bits .or .i64 (2^r*y) u=2^r*y+u:=by
 have q:=two_pos r;have e:(2:Int)^r<=2^40:=GC i;have w:(2:Int)^r*y<=2^40*1000000:=Qb e d c (by omega);have x:(2:Int)^40=1099511627776:=rfl;have h:u+2^r*y<9223372036854775808:=by omega
 have k:0<=(2:Int)^r*y:=Ja (by omega) c;have:=yZ j b c (by omega);have m:=Bo u (2^r*y);have o:bits .or .i64 (2^r*y) u=IntKind.i64.wrap ((BitVec.ofInt 64 (2^r*y)|||BitVec.ofInt 64 u).toNat:Int):=rfl;have p:bits .or .u64 (2^r*y) u=IntKind.u64.wrap ((BitVec.ofInt 64 (2^r*y)|||BitVec.ofInt 64 u).toNat:Int):=rfl;rw[m,p,Su,ct (by omega) (by have:=(BitVec.ofInt 64 (2^r*y)|||BitVec.ofInt 64 u).isLt;omega)]at this
 rw[o,this,W_def,aO (by omega) (by omega)];omega
theorem wrap64_W(n:Int):RowKit.wrap64 n=W n:=by unfold RowKit.wrap64 W;simp[IntKind.wrap,IntKind.bits,IntKind.signed];split<;>omega
theorem aaz{x y:Int}(b: -1000000<=x)(c:x<=1000000)(d: -1000000<=y)(e:y<=1000000):Top.iY x y=true:=by
 unfold Top.iY;simp;omega
theorem sub_0{x:Int}(b: -1000000<=x)(c:x<=1000000):Top.RV 0 x 0 0=0/\Top.H6 0 x 0 0=x:=by
 unfold Top.RV Top.H6;rw[aaz (x:=0) (y:=x) (by omega) (by omega) b c,aaz (x:=0) (y:=0) (by omega) (by omega) (by omega) (by omega)];simp only[Bool.and_self,JE,wrap64_W];rw[show x-0=x by omega,show(0:Int)-0=0 by omega,aO (n:=x) (by omega) (by omega),aO (n:=0) (by omega) (by omega)];unfold Top.kx Top.ky;rw[aaz (x:=0) (y:=x) (by omega) (by omega) b c];exact⟨rfl,rfl⟩
theorem dot_m{x:Int}(b: -1000000<=x)(c:x<=1000000):Top.VJ 0 x 0 1=x:=by
 unfold Top.VJ;rw[aaz (x:=0) (y:=x) (by omega) (by omega) b c,aaz (x:=0) (y:=1) (by omega) (by omega) (by omega) (by omega)];simp only[Bool.and_self,JE,wrap64_W];rw[show(0:Int)*0=0 by omega,show x*1=x by omega,aO (n:=x) (by omega) (by omega),aO (n:=0) (by omega) (by omega),aO (by omega) (by omega)];omega
theorem k197:aH prog T197:=av k240 hm func197 (by kernel_rfl) (by kernel_rfl) sIII2.ok (by kernel_rfl) (λ_=>[]) λa d=>by
 have h:vc197 a.1 a.2.1 a.2.2:=by
  rw[<-vc197_eq];simp only[aA];obtain⟨c,r,n⟩:=a
  try dsimp only at d
  simp[-List.getD_eq_getElem?_getD];unfold C7 at d;obtain⟨b,e,rfl,rfl⟩:=d;have d1:0<=c*c:=Ja b b;have d2:c*c<=20000000*20000000:=Qb e e b (by omega);rw[aO (n:=100*100) (by omega) (by omega),ct (n:=100*100) (by omega) (by omega),ct (n:=c) (by omega) (by omega),ct (n:=1000000) (by omega) (by omega),qC b (by omega) b (by omega),qC (x:=100*100) (by omega) (by omega) (by omega) (by omega)];rw[ct (n:=c*c) (by omega) (by omega),ct (n:=100*100*1000000) (by omega) (by omega)]
  exact⟨λh=>by omega,λ_=>⟨λ_=>J9,λh=>absurd rfl h⟩⟩
 exact h
theorem k276:aH prog T276:=av k197 hm func276 (by kernel_rfl) (by kernel_rfl) sg270.ok (by kernel_rfl) (λa=>a276 a) λa A=>by
 have h:vc276 a:=by
  rw[<-vc276_eq];simp only[aA];generalize a=x at*
  try dsimp only at A
  obtain⟨y,rfl⟩:∃y:Int,x= -y:=⟨-x,by omega⟩;have M:=A;unfold pre276 at A;have h1:1<=y:=by omega
  have J:y<=1000:=by omega
  simp[-List.getD_eq_getElem?_getD];obtain⟨N,O⟩:=sub_0 (x:= -y) (by omega) (by omega);rw[N,O,dot_m (x:= -y) (by omega) (by omega)]
  try rw[dot_m (x:=1) (by omega) (by omega),ct (n:=1) (by omega) (by omega)]
  rw[show-(-y)=y by omega,aO (n:=y) (by omega) (by omega),ct (n:=y) (by omega) (by omega),qC (x:=y) (by omega) (by omega) (by omega) (by omega)];have R:0<=y*y:=Ja (by omega) (by omega);have q2:y*y<=1000*1000:=Qb J J (by omega) (by omega);rw[ct (n:=y*y) R (by omega)];refine⟨⟨by omega,by omega⟩,?_,λs b c=>⟨λB=>?_,λB=>?_⟩⟩
  . unfold Ge;refine⟨23,by omega,rfl,?_⟩;rw[show(2:Int)^23=8388608 from rfl,show y/8388608=0 by omega];rfl
  . unfold Ge at c;obtain⟨k,X,rfl,rfl⟩:=c;have i:k≠0:=by rintro rfl;simp at B
    obtain⟨j,rfl⟩:=Nat.exists_eq_succ_of_ne_zero i;have o:=two_pos j;have p:(2:Int)^(j+1)=2*2^j:=by rw[Kk];omega
    have C:(2:Int)^(j+1)/2=2^j:=by omega
    have K:(2:Int)^j<=4194304:=by
     have:=GC (show j<=22 by omega);exact this
    simp only[Nat.succ_eq_add_one]at*
    rw[C]at*
    have D:0<=y/2^(j+1):=Kb (by omega) (by omega);have hx:y/2^(j+1)<=1000:=by
     have:=Z3 (a:=y) (2^(j+1)) (by omega);omega
    have cY:bits BinOp.or IntKind.i64 (y/2^(j+1)*2^(j+1)) (2^j)=2^(j+1)*(y/2^(j+1))+2^j:=by
     rw[J6];exact or_64 (r:=j+1) (by omega) (by omega) (by omega) D (by omega)
    rw[cY];have q:y/2^(j+1)=y/2^j/2:=by
     rw[Kk,<-Int.ediv_ediv_of_nonneg (by omega)]
    have Z:=Qs y (2^j);have E:=Jm y (show(2:Int)^j≠0 by omega);have F:=Jo y o;have key:2^(j+1)*(y/2^(j+1))=2^j*(2*(y/2^j/2)):=by
     rw[q,p,J6 2 (2^j),Jk]
    have u:y/2^(j+1)*2^(j+1)=2^j*(2*(y/2^j/2)):=by rw[J6];exact key
    rw[u,key];have ac:0<=y/2^j:=Kb (by omega) (by omega);have L:∀s:Int,s=2^j*(y/2^j)->Ge y s (2^j/2):=λs hs=>by
     unfold Ge;exact⟨j,by omega,rfl,by rw[hs,J6]⟩
    have w:max ((2:Int)^j/2) 0<2^j:=by omega
    have d:2^j*(2*(y/2^j/2))=if y/2^j%2=0 then 2^j*(y/2^j)else 2^j*(y/2^j)-2^j:=by
     split
     . congr 1;omega
     . rw[show 2*(y/2^j/2)=y/2^j-1 by omega,Qm,Ke]
    generalize hc:(2:Int)^j*(2*(y/2^j/2))=m at*
    generalize hP:(2:Int)^j*(y/2^j)=pd at*
    have ad:0<=m:=by rw[<-hc];exact Ja (by omega) (by omega)
    have e:0<=m+2^j:=by omega
    have z:m+2^j<=4196304:=by split at d<;>omega
    rw[ct (n:=m+2^j) e (by omega)];have d1:0<=(m+2^j)*(m+2^j):=Ja e e;have d2:(m+2^j)*(m+2^j)<=4196304*4196304:=Qb z z e (by omega);rw[ct d1 (by omega),Us d1 (by omega)]
    try rw[Ke]
    rw[ct d1 (by omega)];have G:m+2^j<=y->(m+2^j)*(m+2^j)<=y*y:=λh=>Qb h h e (by omega)
    have H:y<m+2^j->y*y<(m+2^j)*(m+2^j):=λh=>by
     have a1:y*y<=y*(m+2^j):=Jt (by omega) (by omega);have a2:y*(m+2^j)<(m+2^j)*(m+2^j):=X8 h (by omega);omega
    refine⟨λh=>by omega,λ_=>⟨λ_=>⟨λh=>⟨L _ ?_,w⟩,λh=>⟨L _ ?_,w⟩⟩,λh=>absurd rfl h⟩⟩
    . split at d
      . exact absurd (H (by omega)) (by omega)
      . omega
    . split at d
      . omega
      . exact absurd (G (by omega)) (by omega)
  . unfold Ge at c;obtain⟨k,X,rfl,rfl⟩:=c;have i:k=0:=by
     rcases Jw k with h|h
     . exact h
     . obtain⟨j,rfl⟩:=Nat.exists_eq_succ_of_ne_zero (show k≠0 by omega);have o:=two_pos j;have p:(2:Int)^(j+1)=2*2^j:=by rw[Kk];omega
       simp only[Nat.succ_eq_add_one]at B;omega
    subst i;simp
 exact h
theorem k297:aH prog T297:=av k276 hm func297 (by kernel_rfl) (by kernel_rfl) sIII2.ok (by kernel_rfl) (λ_=>[]) λa e=>by
 have h:vc297 a.1 a.2.1 a.2.2:=by
  rw[<-vc297_eq];simp only[aA];obtain⟨p,v,h⟩:=a
  try dsimp only at e
  simp[-List.getD_eq_getElem?_getD];unfold pre297 at e;obtain⟨y,z,v0,v1,A,B⟩:=e;have r:0<=v*v:=sq_nn v;have u:(v*v).natAbs<=400*400:=by rw[JO];exact JT (by omega) (by omega)
  have k:loE p v h=min p (p+v+h):=by unfold loE;rfl
  have i:hiE p v h=if 0<v/\v< -2*h then max (max p (p+v+h)) (p+(v*v-4*h-1).tdiv (-4*h))else max p (p+v+h):=by unfold hiE;rfl
  generalize v*v=q at*
  have w:0<=(q-4*h-1).tdiv (-4*h):=Int.tdiv_nonneg (by omega) (by omega);have x:(q-4*h-1).tdiv (-4*h)<=160200:=by
   rw[Ky (by omega)];have:=Z3 (a:=q-4*h-1) (-4*h) (by omega);omega
  have j:0<v->v< -2*h->hiE p v h=max (max p (p+v+h)) (p+(q-4*h-1).tdiv (-4*h)):=λa b=>by rw[i,JB ⟨a,b⟩]
  have c: ¬(0<v/\v< -2*h)->hiE p v h=max p (p+v+h):=λa=>by rw[i,JA a]
  rw[k];clear k i;rw[aO (n:=p+v) (by omega) (by omega),aO (n:=p+v+h) (by omega) (by omega),aO (n:=q) (by omega) (by omega),aO (n:=4*h) (by omega) (by omega),aO (n:=q-4*h) (by omega) (by omega),aO (n:=q-4*h-1) (by omega) (by omega),aO (n:= -4*h) (by omega) (by omega),aO (n:=(q-4*h-1).tdiv (-4*h)) (by omega) (by omega),aO (n:=p+(q-4*h-1).tdiv (-4*h)) (by omega) (by omega),aO (n:= -2*h) (by omega) (by omega)]
  generalize (q-4*h-1).tdiv (-4*h)=d at*
  refine⟨λh=>by omega,λ_=>⟨λ_=>⟨λm=>⟨λo=>⟨by omega,?_,?_⟩,λo=>⟨?_,?_⟩⟩,λm=>⟨?_,?_⟩⟩,λh=>by omega⟩⟩
  . split<;>omega
  . rw[j m o];repeat' split
    all_goals omega
  . split<;>omega
  . rw[c (by omega)];split<;>omega
  . split<;>omega
  . rw[c (by omega)];split<;>omega
 exact h
end Go.Proofs.Big
namespace Go.Proofs.Big
open Go Go.Sx Go.Proofs Go.RowKit Go.Proofs.Top Tryz
def lV(l:Ω):SV:=.bF 1 l.length λi=>[.int .u32 (l.getD i 0)]
def zP(i:Nat):SV:=.agg [S .ff,S (.tg i)]
def zG(i:Nat):SV:=.agg [S .tt,S (.tg i)]
def z0:SV:=.agg [S .ff,S (.bF 1 0 (aY 1 []))]
def zn:SV:=.agg [S .ff,S .aq]
def zk(n:Int):SV:=.agg [S .ff,S (.bF 1 1 (aY 1 [[.int .u32 n]]))]
def zo:SV:=.agg [S .DG,S .DG]
section
variable [bW]
theorem dcD1{n:Int}:DC cD 13 [.bF 1 1 (aY 1 [[.int .u32 n]])] [n]:=ml rfl rfl λi b=>by
 have:i=0:=by omega
 subst this;exact FQ
theorem zaP{i:Nat}{z:Int}(h:bW.tag i=lV (dz z))(b:0<=z):DA Rx (zP i) z:=X5 (Ax (.inl rfl) (z7 h) rfl (λ_=>b) (λe=>by cases e))
theorem zaM{i:Nat}{z:Int}(h:bW.tag i=lV (dz z))(b:0<z):DA Rx (zG i) (-z):=X5 (Ax (.inr rfl) (z7 h) (dz_neg z).symm (λe=>by cases e) (λ_=>by omega))
theorem za0:DA Rx z0 0:=X5 (Ax (.inl rfl) (ml rfl rfl λi b=>by omega) gz.symm (λ_=>by omega) (λe=>by cases e))
theorem zan:DA Rx zn 0:=X5 (Ax (.inl rfl) dc_nils gz.symm (λ_=>by omega) (λe=>by cases e))
theorem zak{n:Int}(b:0<n)(c:n<4294967296):DA Rx (zk n) n:=X5 (Ax (.inl rfl) dcD1 (aav b c).symm (λ_=>by omega) (λe=>by cases e))
theorem EY{b y:SV}{z:Int}(e:∀ro o v,Rel ro o (.bool (decide (z<0))) v->Rel ro o b v)(i:oZ (Av (aF .u32) (dz z)) y):oZ (zS z) (.agg [.s b,.s y]):=by
 intro ro o v h;obtain⟨p,j,m,d⟩:=cU h;rw[j];refine .agg _ _ _ m λk q c=>?_
 match k,c with
 |0,c=>rw[cC]at c;cases c;exact e _ _ _ (d 0 _ rfl)
 |1,c=>rw[cB,cC]at c;cases c;exact i _ _ _ (d 1 _ rfl)
 |k+2,c=>rw[cB,cB]at c;cases c
theorem AP{z:Int}(h:0<=z):∀ro o v,Rel ro o (.bool (decide (z<0))) v->Rel ro o .ff v:=λro o v b=>by
 rw[JH (by omega)]at b;rw[jJ b];exact .ff _
theorem weak_tt{z:Int}(h:z<0):∀ro o v,Rel ro o (.bool (decide (z<0))) v->Rel ro o .tt v:=λro o v b=>by
 rw[JJ h]at b;rw[jJ b];exact .tt _
theorem zwP{i:Nat}{z:Int}(h:bW.tag i=lV (dz z))(b:0<=z):oZ (zS z) (zP i):=EY (AP b) (uw h rfl)
theorem zwM{i:Nat}{z:Int}(h:bW.tag i=lV (dz z))(b:0<z):oZ (zS (-z)) (zG i):=EY (weak_tt (by omega)) (uw (by rw[h,dz_neg];rfl) rfl)
theorem vZ{es n:Nat}{f g:Nat->List SV}(e:∀i,i<n->f i=g i):oZ (.bF es n f) (.bF es n g):=by
 intro ro o v h;rcases dE h with⟨k,A,cap,m⟩|⟨b,w,cap,p,m,c,k,hm,q⟩
 . rw[m];exact .fe _ _ _ _ _ _ k
 . rw[m];exact .bF _ _ _ _ _ _ _ p c (λi d=>by rw[<-e i d];exact k i d) hm (λi j r d u=>q i j r d (by rw[e i d];exact u))
theorem NO:oZ (zS 0) z0:=EY (AP (by omega)) (by rw[gz];exact vZ (es:=1) (n:=0) λi b=>by omega)
theorem zwk{n:Int}(b:0<n)(c:n<4294967296):oZ (zS n) (zk n):=EY (AP (by omega)) (by
 rw[aav b c];exact vZ (es:=1) (n:=1) λi d=>by
  have:i=0:=by omega
  subst this;rfl)
theorem weak_t2{a b x y:SV}(e:oZ a x)(h:oZ b y):oZ (.df [a,b]) (.df [x,y]):=by
 intro ro o w j;obtain⟨p,k,m,d⟩:=jt j;rw[k];refine .df _ _ _ m λi q c=>?_
 match i,c with
 |0,c=>cases c;exact e _ _ _ (d 0 a rfl)
 |1,c=>cases c;exact h _ _ _ (d 1 b rfl)
 |i+2,c=>simp at c
theorem zwo{z:Int}:oZ (zS z) zo:=by
 intro ro o v h;obtain⟨i,d,e,c⟩:=cU h;rw[d];refine .agg _ _ _ e λk j b=>?_
 match k,b with
 |0,b=>rw[cC]at b;cases b;exact .DG _ _ (gk (c 0 _ rfl) rfl)
 |1,b=>rw[cB,cC]at b;cases b;exact .DG _ _ (gk (c 1 _ rfl) rfl)
 |k+2,b=>rw[cB,cB]at b;cases b
theorem jZ{z:Int}(h:z.natAbs<18446744073709551616):fit z:=fX (k:=2) (by rw[fE];exact_mod_cast h) (by omega)
theorem Re{n:Int}:oZ (iS n) (I n):=oZ.refl _
theorem f291{e:XE}{b c z:Int}{r:SV}(d:e.den=z)(i:z.natAbs<1000000)(h:oZ (zS z) r):Fact prog 291 [.sy .i64 e b c] r:=by
 subst d;exact DE k291.1 da_y (by unfold fN;omega) rfl h
theorem f305{x y r:SV}{a b:Int}(c:DA Rx x a)(d:DA Rx y b)(h:a.natAbs<1000000)(i:b.natAbs<1000000)(e:oZ (zS (a*b)) r):Fact prog 305 [x,y] r:=gS k305.1 c d ⟨jZ (by omega),jZ (by omega)⟩ rfl e
theorem f304{x y r:SV}{a b:Int}(c:DA Rx x a)(d:DA Rx y b)(h:a.natAbs<1000000)(i:b.natAbs<1000000)(e:oZ (zS (a+b)) r):Fact prog 304 [x,y] r:=gS k304.1 c d ⟨jZ (by omega),jZ (by omega)⟩ rfl e
theorem f364{x y r:SV}{a b:Int}(c:DA Rx x a)(d:DA Rx y b)(h:a.natAbs<1000000)(i:b.natAbs<1000000)(e:oZ (zS (a-b)) r):Fact prog 364 [x,y] r:=gS k364.1 c d ⟨jZ (by omega),jZ (by omega)⟩ rfl e
theorem f362{x y r:SV}{a b:Int}(c:DA Rx x a)(d:DA Rx y b)(h:a.natAbs<1000000)(i:b.natAbs<1000000)(e:oZ (zS (Int.gcd a b:Int)) r):Fact prog 362 [x,y] r:=gS XB.1 c d ⟨jZ (by omega),jZ (by omega)⟩ rfl e
theorem f340{x y r q:SV}{a b:Int}(c:DA Rx x a)(d:DA Rx y b)(j:a.natAbs<1000000)(k:b.natAbs<1000000)(e:b≠0)(h:oZ (zS (a.tdiv b)) r)(i:oZ (zS (a.tmod b)) q):Fact prog 340 [x,y] (.df [r,q]):=gS k340.1 c d ⟨jZ (by omega),jZ (by omega),e⟩ rfl (weak_t2 h i)
theorem f287{x r:SV}{a:Int}(b:DA Rx x a)(d:a.natAbs<1000000)(c:oZ (iS (aW a)) r):Fact prog 287 [x] r:=DE k287.1 b (jZ (by omega)) rfl c
theorem f380{x r:SV}{a:Int}(b:DA Rx x a)(d:a.natAbs<1000000)(c:oZ (iS (dz a).length) r):Fact prog 380 [x] r:=DE k380.1 b (jZ (by omega)) rfl c
theorem f284{x r:SV}{a:Int}(b:DA Rx x a)(d:a.natAbs<1000000)(c:oZ (iS (bl a)) r):Fact prog 284 [x] r:=DE aag.1 b (jZ (by omega)) rfl c
theorem f341{x r:SV}{a:Int}(b:DA Rx x a)(d:a.natAbs<1000000)(c:oZ (iS a) r):Fact prog 341 [x] r:=DE k341.1 b (by unfold uV;omega) rfl c
theorem w_y{e:XE}{b c n:Int}(h:n=e.den)(d:b<=n)(i:n<=c):oZ (iS n) (.sy .i64 e b c):=by
 intro ro o v j;rw[aK j];exact .sy _ _ _ _ _ _ h d i
structure RsR (W E : Int) : Prop where
 t20 : bW.tag 20 = lV (dz (16 * W))
 t21 : bW.tag 21 = lV (dz W)
 t22 : bW.tag 22 = lV (dz (16 + E))
 t23 : bW.tag 23 = lV (dz ((16 + E) * W))
 t24 : bW.tag 24 = lV (dz (E * W))
 t25 : bW.tag 25 = lV (dz (Int.gcd (E * W) 16 : Int))
 t26 : bW.tag 26 = lV (dz (E * W / (Int.gcd (E * W) 16 : Int)))
 t27 : bW.tag 27 = lV (dz (16 / (Int.gcd (E * W) 16 : Int)))
 t28 : bW.tag 28 = lV (dz (E * W / 16))
 v1 : bW.val 1 = -W
 v3 : bW.val 3 = E
 v8 : bW.val 8 = E * W / 16
 v10 : bW.val 10 = bl (E * W / 16)
end
def gN:SV:=Y 2 (-30) (-1)
def wN:SV:=Y 1 (-400) (-1)
def vB:SV:=Y 8 0 200
def I2:List (Nat×List SV×SV):=[
 (291,[wN],zG 21),(305,[z0,zG 21],z0),(291,[.sy .i64 (.mul (.v 1) (.c 16)) (-6400) (-16)],zG 20),(291,[.sy .i64 (.add (.c 16) (.v 3)) 17 24],zP 22),
 (305,[zG 20,zk 1],zG 20),(305,[zP 22,zG 21],zG 23),(364,[zG 20,zG 23],zP 24),(362,[z0,zP 24],zP 24),(362,[zP 24,zk 16],zP 25),
 (340,[z0,zP 25],.df [z0,z0]),(340,[zP 24,zP 25],.df [zP 26,z0]),(340,[zk 16,zP 25],.df [zP 27,z0]),(305,[zP 27,z0],z0),(304,[zP 26,z0],zP 26),
 (287,[zP 27],I 1),(380,[zP 26],I 1),(380,[zP 27],I 1),(305,[z0,zP 27],z0),(305,[zn,zP 27],z0),(305,[zP 26,zk 1],zP 26),(304,[z0,zP 26],zP 26),
 (305,[zk 1,zP 27],zP 27),(362,[z0,zP 26],zP 26),(362,[zP 26,zP 27],zk 1),(340,[zP 26,zk 1],.df [zP 26,z0]),(340,[zP 27,zk 1],.df [zP 27,z0]),
 (305,[zP 27,zk 1],zP 27),(340,[z0,zP 27],.df [z0,z0]),(340,[zP 26,zP 27],.df [zP 28,zo]),(284,[zP 28],Y 10 0 20),(341,[zP 28],vB)]
def rfacts0:List (Nat×List SV×SV):=[(291,[wN],zG 21),(305,[z0,zG 21],z0),(291,[.sy .i64 (.mul (.v 1) (.c 16)) (-6400) (-16)],zG 20),(305,[zG 20,zk 1],zG 20),(305,[zk 16,zG 21],zG 20),(364,[zG 20,zG 20],z0)]
def arB(N:Int):Bool:=
 let g:Int:=(Int.gcd N 16:Int)
 decide (1<=g)&&decide (g<=16)&&decide (N.tdiv g=N/g)&&decide (N.tmod g=0)&&decide ((16:Int).tdiv g=16/g)&&decide ((16:Int).tmod g=0)&&decide ((Int.gcd (N/g) (16/g):Int)=1)&&decide ((N/g).tdiv (16/g)=N/16)&&decide (1<=N/g)&&decide (N/g<=3200)&&decide (1<=16/g)&&decide (16/g<=16)
theorem ar_all:((List.range 3200).all λk=>arB (1+(k:Int)))=true:=by kernel_rfl
theorem ar_N{N:Int}(b:1<=N)(c:N<=3200):arB N=true:=by
 have:=Js.1 ar_all (N-1).toNat (Kn.2 (by omega))
 rwa[show(1:Int)+((N-1).toNat:Int)=N by omega]at this
theorem bl_low[bW]{z:Int}(b:0<=z)(c:z<=200):0<=bl z/\bl z<=20:=by
 have e:bl z=(wL z.natAbs:Int):=by unfold bl;rfl
 have d:=xJ (n:=z.natAbs) (k:=20) (by omega);omega
section
variable [bW] {W E : Int} (h : RsR W E) (h1 : 1 <= W) (h2 : W <= 400) (e1 : 1 <= E) (e2 : E <= 8)
include h h1 h2
include e1 e2
theorem Vj:A8 prog I2:=by
 obtain⟨t20,t21,t22,t23,t24,t25,t26,t27,t28,v1,B,C,v10⟩:=h;have n1:1*1<=E*W:=Qb e1 h1 (by omega) (by omega);have n2:E*W<=8*400:=Qb e2 h2 (by omega) (by omega);have hm:(16+E)*W=16*W+E*W:=by rw[Qo]
 have u:=ar_N (N:=E*W) (by omega) (by omega);rw[hm]at t23;generalize E*W=N at*
 unfold arB at u;simp only[J2,JG]at u;obtain⟨⟨⟨⟨⟨⟨⟨⟨⟨⟨⟨a1,a2⟩,D⟩,F⟩,G⟩,H⟩,J⟩,K⟩,a9⟩,L⟩,M⟩,O⟩:=u;generalize R:((Int.gcd N 16:Nat):Int)=g at*
 generalize N/g=q at*
 generalize (16:Int)/g=d at*
 have w:(.mul (.v 1) (.c 16):XE).den= -(16*W):=by show bW.val 1*16=_;rw[v1];omega
 have X:(.add (.c 16) (.v 3):XE).den=16+E:=by show 16+bW.val 3=_;rw[B]
 have Z:(.v 1:XE).den= -W:=v1;have z:0<=N/16:=by omega
 have A:N/16<=200:=by omega
 obtain⟨b0,b1⟩:=bl_low z A;have m:=zaM t21 (by omega);have o:=zaM t20 (by omega);have x:=zaP t22 (by omega);have y:=zaM t23 (by omega);have i:=zaP t24 (by omega);have j:=zaP t25 (by omega);have e:=zaP t26 (by omega);have b:=zaP t27 (by omega);have p:=zaP t28 (by omega);have k:DA Rx (zk 1) 1:=zak (by omega) (by omega);have r:DA Rx (zk 16) 16:=zak (by omega) (by omega);unfold I2;refine .cons (f291 Z (by omega) (zwM t21 (by omega)))<|.cons (f305 za0 m (by omega) (by omega) (by rw[JQ];exact NO))<|
  .cons (f291 w (by omega) (zwM t20 (by omega)))<|.cons (f291 X (by omega) (zwP t22 (by omega)))<|
  .cons (f305 o k (by omega) (by omega) (by rw[Ke];exact zwM t20 (by omega)))<|
  .cons (f305 x m (by omega) (by omega) (by rw[JR,hm];exact zwM t23 (by omega)))<|
  .cons (f364 o y (by omega) (by omega) (by rw[show-(16*W)- -(16*W+N)=N by omega];exact zwP t24 (by omega)))<|
  .cons (f362 za0 i (by omega) (by omega) (by rw[show(Int.gcd 0 N:Int)=N by rw[Int.gcd_zero_left];omega];exact zwP t24 (by omega)))<|
  .cons (f362 i r (by omega) (by omega) (by rw[R];exact zwP t25 (by omega)))<|
  .cons (f340 za0 j (by omega) (by omega) (by omega) (by rw[Int.zero_tdiv];exact NO) (by rw[Int.zero_tmod];exact NO))<|
  .cons (f340 i j (by omega) (by omega) (by omega) (by rw[D];exact zwP t26 (by omega)) (by rw[F];exact NO))<|
  .cons (f340 r j (by omega) (by omega) (by omega) (by rw[G];exact zwP t27 (by omega)) (by rw[H];exact NO))<|
  .cons (f305 b za0 (by omega) (by omega) (by rw[KA];exact NO))<|.cons (f304 e za0 (by omega) (by omega) (by rw[X6];exact zwP t26 (by omega)))<|
  .cons (f287 b (by omega) (by rw[jj (by omega)];exact Re))<|.cons (f380 e (by omega) (by rw[aav (by omega) (by omega)];exact Re))<|.cons (f380 b (by omega) (by rw[aav (by omega) (by omega)];exact Re))<|
  .cons (f305 za0 b (by omega) (by omega) (by rw[JQ];exact NO))<|.cons (f305 zan b (by omega) (by omega) (by rw[JQ];exact NO))<|
  .cons (f305 e k (by omega) (by omega) (by rw[Ke];exact zwP t26 (by omega)))<|.cons (f304 za0 e (by omega) (by omega) (by rw[Int.zero_add];exact zwP t26 (by omega)))<|
  .cons (f305 k b (by omega) (by omega) (by rw[K8];exact zwP t27 (by omega)))<|
  .cons (f362 za0 e (by omega) (by omega) (by rw[show(Int.gcd 0 q:Int)=q by rw[Int.gcd_zero_left];omega];exact zwP t26 (by omega)))<|
  .cons (f362 e b (by omega) (by omega) (by rw[J];exact zwk (by omega) (by omega)))<|
  .cons (f340 e k (by omega) (by omega) (by omega) (by rw[Int.tdiv_one];exact zwP t26 (by omega)) (by rw[Int.tmod_one];exact NO))<|
  .cons (f340 b k (by omega) (by omega) (by omega) (by rw[Int.tdiv_one];exact zwP t27 (by omega)) (by rw[Int.tmod_one];exact NO))<|
  .cons (f305 b k (by omega) (by omega) (by rw[Ke];exact zwP t27 (by omega)))<|
  .cons (f340 za0 b (by omega) (by omega) (by omega) (by rw[Int.zero_tdiv];exact NO) (by rw[Int.zero_tmod];exact NO))<|
  .cons (f340 e b (by omega) (by omega) (by omega) (by rw[K];exact zwP t28 (by omega)) zwo)<|
  .cons (f284 p (by omega) (w_y v10.symm b0 b1))<|.cons (f341 p (by omega) (w_y C.symm z A)) .nil
omit e1 e2
theorem facts_res0:A8 prog rfacts0:=by
 obtain⟨t20,t21,t22,t23,t24,t25,t26,t27,t28,v1,m,o,v10⟩:=h;have e:(.mul (.v 1) (.c 16):XE).den= -(16*W):=by show bW.val 1*16=_;rw[v1];omega
 have j:(.v 1:XE).den= -W:=v1;have d:=zaM t21 (by omega);have b:=zaM t20 (by omega);have k:DA Rx (zk 1) 1:=zak (by omega) (by omega);have i:DA Rx (zk 16) 16:=zak (by omega) (by omega);unfold rfacts0;refine .cons (f291 j (by omega) (zwM t21 (by omega)))<|.cons (f305 za0 d (by omega) (by omega) (by rw[JQ];exact NO))<|
  .cons (f291 e (by omega) (zwM t20 (by omega)))<|.cons (f305 b k (by omega) (by omega) (by rw[Ke];exact zwM t20 (by omega)))<|
  .cons (f305 i d (by omega) (by omega) (by rw[JR];exact zwM t20 (by omega)))<|
  .cons (f364 b b (by omega) (by omega) (by rw[Int.sub_self];exact NO)) .nil
end
def aaF(e w:SV):List SV:=[.bF 10 1 (aY 10 [[I 0,I (-1),I 0,I 1,I 0,I 0,I 0,I 0,e,I 0]]),.bF 2 1 (aY 2 [[I 0,w]])]
def aaT(v:SV):SV:=.df [.bF 2 1 (aY 2 [[I 0,v]]),.tt,I 0]
noncomputable def XR[bW]:DX:=XW.more I2
noncomputable def XR0[bW]:DX:=XW.more rfacts0
theorem m216[bW]:cF XR 2000 216 f216 (aaF (Y 3 1 8) wN) (aaT vB)=true:=by kernel_rfl
theorem m216z[bW]:cF XR0 2000 216 f216 (aaF (I 0) wN) (aaT (I 0))=true:=by kernel_rfl
theorem res_fact[bW]{W E:Int}(h:RsR W E)(b:1<=W)(c:W<=400)(d:1<=E)(e:E<=8):Fact prog 216 (aaF (Y 3 1 8) wN) (aaT vB):=au (An.more okW (Vj h b c d e)) hm (by kernel_rfl) m216
theorem res_fact0[bW]{W:Int}(h:RsR W 0)(b:1<=W)(c:W<=400):Fact prog 216 (aaF (I 0) wN) (aaT (I 0)):=au (An.more okW (facts_res0 h b c)) hm (by kernel_rfl) m216z
end Go.Proofs.Big
