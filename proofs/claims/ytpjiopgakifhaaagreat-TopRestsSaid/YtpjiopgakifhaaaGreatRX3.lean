import Derived.Test.YtpjiopgakifhaaaGreatRA
import Derived.Test.YtpjiopgakifhaaaGreatRU
import Derived.Test.YtpjiopgakifhaaaGreatRW
set_option linter.unusedSectionVars false
set_option linter.unusedSimpArgs false
set_option linter.unusedVariables false
set_option maxRecDepth 100000
namespace Go.Proofs.Big
open Go Go.Sx Go.Proofs Go.RowKit
def C8(p:Ω):Bool:=Nat.ble p.length 3&&p.all λz=>decide (z.natAbs<Ru 6)
def CF(l:List Ω)(y:Int×Int):Bool:=Nat.ble l.length 10&&l.all C8&&yB y
def nB(a:ao):Bool:=C8 a.1&&yB a.2.1&&yB a.2.2
def BZ(a:ao):Bool:=nB a&&yB (dj a.2.1 a.2.2)
def itB{α:Type}(D:α->Bool)(S:α->α)(G:α->Bool):Nat->α->Bool
 |0,_=>false
 |k+1,a=>G a&&(D a||itB D S G k (S a))
def flrB(e:Int)(a:ao):Bool:=BZ a&&yB (vA a.2.2 e,e)
def q396B(q:ao)(e:Int):Bool:=decide (0<=e)&&decide (e<=64)&&itB (kU e) ai (flrB e) 3000 q
def N0(y:Int×Int):Bool:=decide (0<=y.2)&&decide (y.2<=1024)&&decide (y.1.natAbs<Ru 6)
def HR(q:ao):Bool:=C8 q.1&&C8 (dZ q.1 [])&&Nat.ble 2 (tl q.1)&&N0 q.2.1&&N0 q.2.2&&yB q.2.1&&yB q.2.2&&
 ((decide (dd q.2.1 q.2.2=0)&&C8 (ae q.1)&&decide (cY (ae q.1) q.2.1=0))||(decide (dd q.2.1 q.2.2<0)&&CF (bC q.1) q.2.1&&CF (bC q.1) q.2.2&&decide (qb (bC q.1) q.2.1-qb (bC q.1) q.2.2=1)))
def vF(q:ao):Bool:=HR q&&q396B (cM q) 4&&decide (0<=kX q)&&decide (kX q<=15)
section
variable [bW]
theorem Vr{p:Ω}(h:C8 p=true):bj 6 p/\p.length<=3:=by
 unfold C8 at h;simp only[J2]at h;obtain⟨b,c⟩:=h;have b:=Qk b;refine⟨jd (by omega) λz d=>?_,b⟩;have:=KB (Js.1 c z d);rw[<-AN];exact Z5.2 this
theorem OT{p:Ω}(h:C8 p=true):cr p:=bu (Vr h).1 (by omega)
theorem Yq{p:Ω}{y:Int×Int}(h:C8 p=true)(k:yB y=true):bM p y:=by
 unfold bM;exact⟨an (Vr h).1 (by omega),by have:=(Vr h).2;omega,(yg k).2.1,(yg k).2.2.1,(yg k).2.2.2⟩
theorem q261{p:Ω}(h:C8 p=true):m6 p:=by
 unfold m6;exact .inl ⟨an (Vr h).1 (by omega),(Vr h).2⟩
theorem w7{l:List Ω}{y:Int×Int}(h:CF l y=true):jO l y:=by
 unfold CF at h;simp only[J2]at h;obtain⟨⟨b,c⟩,d⟩:=h;unfold jO;exact⟨Qk b,λp e=>Yq (Js.1 c p e) d⟩
theorem MQ{a:ao}(h:nB a=true):ql a:=by
 unfold nB at h;simp only[J2]at h;unfold ql;exact⟨(yg h.1.2).1,(yg h.2).1,Yq h.1.1 h.2⟩
theorem q313{a:ao}{y:Int×Int}(h:nB a=true)(k:yB y=true):eJ a y:=by
 have b:=h;unfold nB at b;simp only[J2]at b;unfold eJ;exact⟨MQ h,(yg k).1,Yq b.1.1 k⟩
theorem q263_ok{a:ao}(h:BZ a=true):dA a:=by
 unfold BZ at h;simp only[J2]at h;have b:=h.1;unfold nB at b;simp only[J2]at b;unfold dA;exact⟨MQ h.1,(yg h.2).1,Yq b.1.1 h.2⟩
theorem it_ok{α:Type}{D:α->Bool}{S:α->α}{G:α->Bool}{P:α->Prop}(c:∀a,G a=true->P a):∀{k:Nat}{a:α},itB D S G k a=true->po D S P k a
 |0,_,h=>by cases h
 |k+1,a,h=>by
  simp only[itB,J2,Qz]at h;refine⟨c a h.1,?_⟩;rcases h.2 with b|b
  . exact .inl b
  . exact .inr (it_ok c b)
theorem q396_ok{q:ao}{e:Int}(h:q396B q e=true):aan q e:=by
 unfold q396B at h;simp only[J2,JG]at h;unfold aan;refine⟨h.1.1,h.1.2,it_ok (λa b=>?_) h.2⟩;unfold flrB at b;simp only[J2]at b;have c:=b.1;unfold BZ at c;simp only[J2]at c;unfold XK;exact⟨q263_ok b.1,q313 c.1 b.2⟩
theorem big_dz{z:Int}(h:z.natAbs<Ru 6):fit z/\(dz z).length<=256:=by
 have b:(z.natAbs:Int)<pw 6:=by rw[<-AN];exact Z5.2 h
 refine⟨fX b (by omega),?_⟩;have:=Bc (z:=z) (k:=6) b;omega
theorem szB_lg{p:Ω}(h:C8 p=true):p.length<=17/\∀z∈p,fit z/\(dz z).length<=256:=by
 have:=(Vr h).2;refine⟨by omega,λz b=>?_⟩;unfold C8 at h;simp only[J2]at h;exact big_dz (KB (Js.1 h.2 z b))
theorem q301_ok{p:Ω}(h:C8 p=true)(k:C8 (dZ p [])=true):mu p []:=by
 unfold mu lgW;refine⟨⟨by simp,λq b=>?_⟩,⟨by simp,λq b=>?_⟩,an (Vr h).1 (by omega),jd (by simp) (by simp)⟩
 . simp at b;rcases b with rfl|rfl
   . exact szB_lg h
   . exact⟨by simp,by simp⟩
 . simp at b;subst b;exact szB_lg k
theorem PT{y:Int×Int}(h:N0 y=true):nA y:=by
 unfold N0 at h;simp only[J2,JG]at h;unfold nA;refine⟨h.1.1,h.1.2,(big_dz h.2).1,?_⟩;have:=xJ (n:=y.1.natAbs) (k:=192) h.2;unfold bl;omega
theorem LF{q:ao}(h:HR q=true):rm q:=by
 unfold HR at h;simp only[J2,Qz,JG]at h;obtain⟨⟨⟨⟨⟨⟨⟨b,d⟩,e⟩,i⟩,j⟩,c⟩,k⟩,m⟩:=h;unfold rm;refine⟨q301_ok b d,OT b,Qk e,PT i,PT j,(yg c).1,(yg k).1,?_⟩;rcases m with h|h
 . exact .inl ⟨h.1.1,Yq h.1.2 c,h.2⟩
 . exact .inr ⟨h.1.1.1,q261 b,w7 h.1.1.2,w7 h.1.2,h.2⟩
theorem Fw{q:ao}(h:HR q=true):m6 q.1:=by
 unfold HR at h;simp only[J2,Qz,JG]at h;exact q261 h.1.1.1.1.1.1.1
theorem q325_ok{q:ao}(h:vF q=true):CB q/\rm q/\m6 q.1/\0<=kX q/\kX q<=15:=by
 unfold vF at h;simp only[J2,JG]at h;obtain⟨⟨⟨b,c⟩,d⟩,e⟩:=h;refine⟨?_,LF b,Fw b,d,e⟩;unfold CB yL uV;exact⟨⟨LF b,Fw b,q396_ok c⟩,by omega,by omega⟩
end
end Go.Proofs.Big
