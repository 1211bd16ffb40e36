import Derived.Test.YtpjiopgakifhaaaGreatRA
import Derived.Test.YtpjiopgakifhaaaGreatRD
import Derived.MapKept
set_option linter.unusedSectionVars false
set_option linter.unusedSimpArgs false
set_option linter.unusedVariables false
set_option maxRecDepth 100000
namespace Go.Sx
open Go Go.RowKit
variable [bW]
def XE.beq:XE->XE->Bool
 |.v i,.v j=>Nat.beq i j
 |.c n,.c m=>n==m
 |.add a b,.add x y=>match XE.beq a x with|true=>XE.beq b y|false=>false
 |.sub a b,.sub x y=>match XE.beq a x with|true=>XE.beq b y|false=>false
 |.mul a b,.mul x y=>match XE.beq a x with|true=>XE.beq b y|false=>false
 |.quo a b,.quo x y=>match XE.beq a x with|true=>XE.beq b y|false=>false
 |.mn a b,.mn x y=>match XE.beq a x with|true=>XE.beq b y|false=>false
 |.mx a b,.mx x y=>match XE.beq a x with|true=>XE.beq b y|false=>false
 |_,_=>false
theorem XE.fx:∀{a b:XE},XE.beq a b=true->a=b
 |.v i,b,h=>by
  cases b<;>simp[XE.beq]at h
  subst h;rfl
 |.c n,b,h=>by
  cases b<;>simp[XE.beq]at h
  subst h;rfl
 |.add a b,x,h=>by
  cases x<;>simp[XE.beq]at h
  split at h
  . rename_i d;rw[XE.fx d,XE.fx h]
  . cases h
 |.sub a b,x,h=>by
  cases x<;>simp[XE.beq]at h
  split at h
  . rename_i d;rw[XE.fx d,XE.fx h]
  . cases h
 |.mul a b,x,h=>by
  cases x<;>simp[XE.beq]at h
  split at h
  . rename_i d;rw[XE.fx d,XE.fx h]
  . cases h
 |.quo a b,x,h=>by
  cases x<;>simp[XE.beq]at h
  split at h
  . rename_i d;rw[XE.fx d,XE.fx h]
  . cases h
 |.mn a b,x,h=>by
  cases x<;>simp[XE.beq]at h
  split at h
  . rename_i d;rw[XE.fx d,XE.fx h]
  . cases h
 |.mx a b,x,h=>by
  cases x<;>simp[XE.beq]at h
  split at h
  . rename_i d;rw[XE.fx d,XE.fx h]
  . cases h
abbrev HT:=List (XE×Int×Int)
def yf(H:HT):Prop:=∀x∈H,x.2.1<=x.1.den/\x.1.den<=x.2.2
theorem yf.nil:yf []:=λ_ h=>by cases h
def zt(e:XE):HT->Option (Int×Int)
 |[]=>none
 |(x,b)::r=>match XE.beq x e with
  |true=>some b
  |false=>zt e r
theorem qm{e:XE}{l h:Int}:∀{H:HT},yf H->zt e H=some (l,h)->l<=e.den/\e.den<=h
 |[],_,c=>by cases c
 |(x,b)::r,hH,c=>by
  simp only[zt]at c;split at c
  . rename_i d;have:=XE.fx d;subst this;cases c;exact hH (x,l,h) (by simp)
  . exact qm (λy i=>hH y (by simp[i])) c
def IB(e:XE)(b c:Int):Option SV:=
 if-9223372036854775808<=b/\c<=9223372036854775807 then(if b=c then some (.int .i64 b)else some (.sy .i64 e b c))else none
def mkSy(H:HT)(e:XE)(b c:Int):Option SV:=match zt e H with
 |some (l,h)=>IB e (max b l) (min c h)
 |none=>IB e b c
theorem wrap64{n:Int}(b: -9223372036854775808<=n)(c:n<=9223372036854775807):IntKind.i64.wrap n=n:=by
 simp[IntKind.wrap,IntKind.bits,IntKind.signed];omega
section
variable {ro : RO} {own : Own}
theorem F2{e:XE}{b c:Int}{z:SV}(h:IB e b c=some z)(d:b<=e.den)(i:e.den<=c):IntKind.i64.wrap e.den=e.den/\∀(ro:RO)(own:Own),Rel ro own z (.int .i64 e.den):=by
 unfold IB at h;split at h
 case isFalse=>cases h
 rename_i j;refine⟨wrap64 (by omega) (by omega),λro own=>?_⟩;split at h
 . rename_i k;cases h;rw[show e.den=b by omega];exact .int _ _ _
 . cases h;exact .sy _ _ _ _ _ _ rfl d i
theorem jr{H:HT}(d:yf H){e:XE}{b c:Int}{z:SV}(h:mkSy H e b c=some z)(i:b<=e.den)(j:e.den<=c):IntKind.i64.wrap e.den=e.den/\∀(ro:RO)(own:Own),Rel ro own z (.int .i64 e.den):=by
 unfold mkSy at h;split at h
 . rename_i l u k;obtain⟨m,o⟩:=qm d k;exact F2 h (by omega) (by omega)
 . exact F2 h i j
abbrev YB:=XE×Int×Int
def pR:SV->Option YB
 |.int .i64 n=>some (.c n,n,n)
 |.sy .i64 e b d=>some (e,b,d)
 |_=>none
structure Dk (a : YB) (n : Int) : Prop where
 eq : n = a.1.den
 lo : a.2.1 <= n
 hi : n <= a.2.2
theorem Gi{x:SV}{a:YB}{v:Value}(h:pR x=some a)(b:Rel ro own x v):∃n,v=.int .i64 n/\Dk a n:=by
 unfold pR at h;split at h
 . cases h;cases b;exact⟨_,rfl,rfl,Kx _,Kx _⟩
 . cases h;cases b;exact⟨_,rfl, ‹_›, ‹_›, ‹_›⟩
 . cases h
def VK(m:Int):XE->Bool
 |.c n=>n==m
 |_=>false
theorem xZ{m:Int}{e:XE}(h:VK m e=true):e.den=m:=by
 cases e<;>simp[VK]at h
 subst h;rfl
def VS(a b:XE):XE:=match VK 0 b with
 |true=>a
 |false=>match VK 0 a with
  |true=>b
  |false=>.add a b
theorem PY(a b:XE):(VS a b).den=a.den+b.den:=by
 unfold VS;split
 . rename_i h;rw[xZ h];omega
 . split
   . rename_i h;rw[xZ h];omega
   . rfl
def UX(a b:XE):XE:=match VK 0 b with
 |true=>a
 |false=>.sub a b
theorem O3(a b:XE):(UX a b).den=a.den-b.den:=by
 unfold UX;split
 . rename_i h;rw[xZ h];omega
 . rfl
def Rr(a b:XE):XE:=match VK 1 b with
 |true=>a
 |false=>match VK 1 a with
  |true=>b
  |false=>match a with
   |.c n=>.mul b (.c n)
   |a=>.mul a b
theorem F8(a b:XE):(Rr a b).den=a.den*b.den:=by
 unfold Rr;split
 . rename_i h;rw[xZ h,Ke]
 . split
   . rename_i h;rw[xZ h,K8]
   . split
     . exact J6 _ _
     . rfl
def quoE(a:XE)(n:Int):XE:=match a with
 |.mul x (.c m)=>if m=n then x else .quo a (.c n)
 |_=>.quo a (.c n)
theorem NX{a:XE}{n:Int}(h:n≠0):(quoE a n).den=a.den.tdiv n:=by
 unfold quoE;split
 . split
   . rename_i e;subst e;simp only[XE.den];rw[Int.mul_tdiv_cancel _ h]
   . rfl
 . rfl
def MW(a b:YB):Int:=min (min (a.2.1*b.2.1) (a.2.1*b.2.2)) (min (a.2.2*b.2.1) (a.2.2*b.2.2))
def wa(a b:YB):Int:=max (max (a.2.1*b.2.1) (a.2.1*b.2.2)) (max (a.2.2*b.2.1) (a.2.2*b.2.2))
theorem si{l h n:Int}(c:l<=n)(d:n<=h)(m:Int):min (l*m) (h*m)<=n*m/\n*m<=max (l*m) (h*m):=by
 rcases JV 0 m with b|b
 . have:=Jh c b;have:=Jh d b;omega
 . have:=Int.mul_le_mul_of_nonpos_right c b;have:=Int.mul_le_mul_of_nonpos_right d b;omega
theorem Rz{a b:YB}{n m:Int}(e:Dk a n)(h:Dk b m):MW a b<=n*m/\n*m<=wa a b:=by
 obtain⟨_,i,j⟩:=e;obtain⟨_,c,d⟩:=h;unfold MW wa;have p:=si i j m;have k:=si c d a.2.1;have o:=si c d a.2.2;rw[J6 b.2.1,J6 b.2.2,J6 m]at k o;omega
def Tl(H:HT)(a b:YB):Option Bool:=
 if a.2.2<b.2.1 then some true else if b.2.2<=a.2.1 then some false else match XE.beq a.1 b.1 with
 |true=>some false
 |false=>match zt (.sub a.1 b.1) H with
  |some (l,h)=>if h<0 then some true else if 0<=l then some false else none
  |none=>match zt (.sub b.1 a.1) H with
   |some (l,h)=>if 0<l then some true else if h<=0 then some false else none
   |none=>none
theorem pG{H:HT}(d:yf H){a b:YB}{n m:Int}(e:Dk a n)(i:Dk b m){r:Bool}(h:Tl H a b=some r):decide (n<m)=r:=by
 obtain⟨j,p,q⟩:=e;obtain⟨k,w,x⟩:=i;unfold Tl at h;split at h
 . cases h;simp;omega
 . split at h
   . cases h;simp;omega
   . split at h
     . rename_i o;cases h;have:=XE.fx o;rw[j,k,this];simp
     . split at h
       . rename_i l u c;have:=qm d c;simp only[XE.den]at this;split at h
         . cases h;simp;omega
         . split at h
           . cases h;simp;omega
           . cases h
       . split at h
         . rename_i l u c;have:=qm d c;simp only[XE.den]at this;split at h
           . cases h;simp;omega
           . split at h
             . cases h;simp;omega
             . cases h
         . cases h
def eqQ(H:HT)(a b:YB):Option Bool:=
 match XE.beq a.1 b.1 with
 |true=>some true
 |false=>if a.2.2<b.2.1 then some false else if b.2.2<a.2.1 then some false else match zt (.sub a.1 b.1) H with
  |some (l,h)=>if h<0 then some false else if 0<l then some false else if 0<=l/\h<=0 then some true else none
  |none=>none
theorem HC{H:HT}(c:yf H){a b:YB}{n m:Int}(d:Dk a n)(e:Dk b m){r:Bool}(h:eqQ H a b=some r):(n==m)=r:=by
 obtain⟨i,p,q⟩:=d;obtain⟨j,w,x⟩:=e;have key:(n==m)=decide (n=m):=by rw[Xm];simp
 rw[key];unfold eqQ at h;split at h
 . rename_i k;cases h;have:=XE.fx k;rw[i,j,this];simp
 . split at h
   . cases h;simp;omega
   . split at h
     . cases h;simp;omega
     . split at h
       . rename_i l u o;have:=qm c o;simp only[XE.den]at this;split at h
         . cases h;simp;omega
         . split at h
           . cases h;simp;omega
           . split at h
             . cases h;simp;omega
             . cases h
       . cases h
def QS:Option Bool->Option SV
 |some true=>some .tt
 |some false=>some .ff
 |none=>none
def PW:Option Bool->Option Bool
 |some true=>some false
 |some false=>some true
 |none=>none
theorem Wr{o:Option Bool}{z:SV}{b:Bool}(h:QS o=some z)(c:∀r,o=some r->b=r):Rel ro own z (.bool b):=by
 unfold QS at h;split at h
 . cases h;rw[c _ rfl];exact .tt _
 . cases h;rw[c _ rfl];exact .ff _
 . cases h
def Wg(H:HT)(c:BinOp)(a b:YB):Option SV:=match c with
 |.add=>mkSy H (VS a.1 b.1) (a.2.1+b.2.1) (a.2.2+b.2.2)
 |.sub=>match XE.beq a.1 b.1 with
  |true=>some (.int .i64 0)
  |false=>mkSy H (UX a.1 b.1) (a.2.1-b.2.2) (a.2.2-b.2.1)
 |.mul=>match XE.beq a.1 b.1 with
  |true=>mkSy H (Rr a.1 b.1) (max 0 (MW a b)) (wa a b)
  |false=>mkSy H (Rr a.1 b.1) (MW a b) (wa a b)
 |.eql=>QS (eqQ H a b)
 |.neq=>QS (PW (eqQ H a b))
 |.lss=>QS (Tl H a b)
 |.gtr=>QS (Tl H b a)
 |.leq=>QS (PW (Tl H b a))
 |.geq=>QS (PW (Tl H a b))
 |_=>none
theorem CV{o:Option Bool}{r:Bool}(h:PW o=some r):o=some (!r):=by
 cases o with
 |none=>cases h
 |some b=>cases b<;>simp[PW]at h<;>subst h<;>rfl
theorem sq_nonneg(n:Int):0<=n*n:=by
 rcases JV 0 n with h|h
 . exact Ja h h
 . exact Yj h h
theorem RS{H:HT}(j:yf H){E:BinOp}{a b:YB}{n m:Int}(F:Dk a n)(G:Dk b m){z:SV}(h:Wg H E a b=some z):∃v,E7 E .i64 n m=some v/\∀(ro:RO)(own:Own) u,Rel ro own v u->Rel ro own z u:=by
 have num:∀{e:XE}{y A r:Int},mkSy H e y A=some z->r=e.den->y<=r->r<=A->∀(ro:RO)(own:Own) u,Rel ro own (.int .i64 (IntKind.i64.wrap r)) u->Rel ro own z u:=by
  intro e y A r B x J K ro own u hu;subst x;obtain⟨L,M⟩:=jr j B J K;rw[L]at hu;cases hu;exact M ro own
 have k:∀{o:Option Bool}{r:Bool},QS o=some z->(∀q,o=some q->r=q)->∀(ro:RO)(own:Own) u,Rel ro own (.bool r) u->Rel ro own z u:=by
  intro o r B N ro own u hu;cases hu;exact Wr B N
 have c:=F;have d:=G;obtain⟨p,O,R⟩:=F;obtain⟨w,X,Z⟩:=G;unfold Wg at h;split at h
 . exact⟨_,rfl,num h (by rw[PY,p,w]) (by omega) (by omega)⟩
 . split at h
   . rename_i x;cases h;have:=XE.fx x;refine⟨_,rfl,λro own u hu=>?_⟩;have C:n-m=0:=by rw[p,w,this];omega
     rw[C]at hu;cases hu;exact .int _ _ _
   . exact⟨_,rfl,num h (by rw[O3,p,w]) (by omega) (by omega)⟩
 . have D:=Rz c d;split at h
   . rename_i x;have:=XE.fx x;have C:n=m:=by rw[p,w,this]
     have:=sq_nonneg n;exact⟨_,rfl,num h (by rw[F8,p,w]) (by rw[<-C]at D⊢;omega) (by omega)⟩
   . exact⟨_,rfl,num h (by rw[F8,p,w]) D.1 D.2⟩
 . exact⟨_,rfl,k h λq i=>HC j c d i⟩
 . refine⟨_,rfl,k h λq i=>?_⟩;have:=HC j c d (CV i);rw[bne,this,Bool.not_not]
 . exact⟨_,rfl,k h λq i=>pG j c d i⟩
 . exact⟨_,rfl,k h λq i=>pG j d c i⟩
 . refine⟨_,rfl,k h λq i=>?_⟩;have:=pG j d c (CV i);rw[Xm]at this⊢;simp at this⊢;cases q<;>simp at this⊢ <;>omega
 . refine⟨_,rfl,k h λq i=>?_⟩;have:=pG j c d (CV i);rw[Xm]at this⊢;simp at this⊢;cases q<;>simp at this⊢ <;>omega
 . cases h
def OX(H:HT)(a b:YB):Option SV:=match b.1 with
 |.c n=>if 0<n then mkSy H (quoE a.1 n) (a.2.1.tdiv n) (a.2.2.tdiv n)else none
 |_=>none
theorem AX{x y n:Int}(b:0<n)(h:x<=y):x.tdiv n<=y.tdiv n:=by
 rcases JV 0 x with c|c
 . rw[Ky c,Ky (by omega)];exact KG b h
 . rcases JV 0 y with d|d
   . have e:x.tdiv n<=0:=by
      have:0<=(-x).tdiv n:=Int.tdiv_nonneg (by omega) (by omega);rw[Int.neg_tdiv]at this;omega
     have i:0<=y.tdiv n:=Int.tdiv_nonneg d (by omega);omega
   . have e:(-y).tdiv n<=(-x).tdiv n:=by
      rw[Ky (by omega),Ky (by omega)];exact KG b (by omega)
     rw[Int.neg_tdiv,Int.neg_tdiv]at e;omega
theorem Fa{H:HT}(e:yf H){a b:YB}{n m:Int}(i:Dk a n)(j:Dk b m){z:SV}(h:OX H a b=some z):m≠0/\∀(ro:RO)(own:Own),Rel ro own z (.int .i64 (IntKind.i64.wrap (n.tdiv m))):=by
 obtain⟨o,p,q⟩:=i;obtain⟨r,A,B⟩:=j;unfold OX at h;split at h
 case h_2=>cases h
 rename_i k u;split at h
 case isFalse=>cases h
 rename_i c;have w:m=k:=by rw[r,u];rfl
 subst w;have d:n.tdiv m=(quoE a.1 m).den:=by rw[NX (by omega),o]
 obtain⟨x,y⟩:=jr e h (by rw[<-d];exact AX c p) (by rw[<-d];exact AX c q);refine⟨by omega,λro own=>?_⟩;rw[d,x];exact y ro own
def Hb(H:HT)(a:YB):Option SV:=mkSy H a.1 a.2.1 a.2.2
def PS(H:HT)(a b:YB):Option SV:=match Tl H b a with
 |some true=>Hb H b
 |some false=>Hb H a
 |none=>mkSy H (.mn a.1 b.1) (min a.2.1 b.2.1) (min a.2.2 b.2.2)
def NV(H:HT)(a b:YB):Option SV:=match Tl H a b with
 |some true=>Hb H b
 |some false=>Hb H a
 |none=>mkSy H (.mx a.1 b.1) (max a.2.1 b.2.1) (max a.2.2 b.2.2)
theorem Pd{H:HT}(c:yf H){a b:YB}{n m:Int}(k:Dk a n)(o:Dk b m){z:SV}(h:PS H a b=some z):∀(ro:RO)(own:Own),Rel ro own z (.int .i64 (if m<n then m else n)):=by
 intro ro own;have d:=k;have i:=o;obtain⟨p,r,u⟩:=k;obtain⟨q,w,x⟩:=o;unfold PS Hb at h;split at h
 . rename_i j;have:=pG c i d j;simp at this;rw[JB this,q];exact(jr c h (by omega) (by omega)).2 ro own
 . rename_i j;have:=pG c i d j;simp at this;rw[JA (by omega),p];exact(jr c h (by omega) (by omega)).2 ro own
 . have e:(if m<n then m else n)=(XE.mn a.1 b.1).den:=by
    simp only[XE.den,<-p,<-q];split<;>omega
   rw[e];refine(jr c h ?_ ?_).2 ro own
   . rw[<-e];split<;>omega
   . rw[<-e];split<;>omega
theorem L4{H:HT}(c:yf H){a b:YB}{n m:Int}(k:Dk a n)(o:Dk b m){z:SV}(h:NV H a b=some z):∀(ro:RO)(own:Own),Rel ro own z (.int .i64 (if m>n then m else n)):=by
 intro ro own;have d:=k;have i:=o;obtain⟨p,r,u⟩:=k;obtain⟨q,w,x⟩:=o;unfold NV Hb at h;split at h
 . rename_i j;have:=pG c d i j;simp at this;rw[JB (show m>n by omega),q];exact(jr c h (by omega) (by omega)).2 ro own
 . rename_i j;have:=pG c d i j;simp at this;rw[JA (by omega),p];exact(jr c h (by omega) (by omega)).2 ro own
 . have e:(if m>n then m else n)=(XE.mx a.1 b.1).den:=by
    simp only[XE.den,<-p,<-q];split<;>omega
   rw[e];refine(jr c h ?_ ?_).2 ro own
   . rw[<-e];split<;>omega
   . rw[<-e];split<;>omega
def MO(H:HT)(a:YB):Option SV:=mkSy H (.sub (.c 0) a.1) (0-a.2.2) (0-a.2.1)
theorem MR{H:HT}(b:yf H){a:YB}{n:Int}(d:Dk a n){z:SV}(h:MO H a=some z):∀(ro:RO)(own:Own),Rel ro own z (.int .i64 (IntKind.i64.wrap (0-n))):=by
 intro ro own;obtain⟨i,m,o⟩:=d;unfold MO at h;have e:0-n=(XE.sub (.c 0) a.1).den:=by simp only[XE.den,<-i]
 obtain⟨j,k⟩:=jr b h (by rw[<-e];omega) (by rw[<-e];omega);rw[e,j];exact k ro own
def GU:SV->Bool
 |.sy _ _ _ _=>true
 |_=>false
def MI:List ar->Bool
 |[]=>false
 |.s v::r=>match GU v with
  |true=>true
  |false=>MI r
 |_::r=>MI r
def TR:SV->SV
 |.sy k _ _ _=>.int k 0
 |v=>v
def xD:List ar->List ar
 |[]=>[]
 |.s v::r=>.s (TR v)::xD r
 |.a n es f::r=>.a n es f::xD r
def As:SV->SV
 |.sy k e _ _=>.int k e.den
 |v=>v
def mV:List ar->List ar
 |[]=>[]
 |.s v::r=>.s (As v)::mV r
 |.a n es f::r=>.a n es f::mV r
theorem FU{x:SV}{v:Value}(h:Rel ro own x v):Rel ro own (As x) v:=by
 cases x
 case sy=>cases h;subst_vars;exact .int _ _ _
 all_goals exact h
theorem vk:∀l:List ar,aa (mV l)=aa l
 |[]=>rfl
 |.s v::r=>by simp only[mV,aa,ar.size,vk r]
 |.a n es f::r=>by simp only[mV,aa,vk r]
theorem vm:∀{l:List ar}{k:Nat}{b:SV},flat (mV l) k=some b->∃u,flat l k=some u/\(b=u\/b=As u)
 |[],_,_,h=>by cases h
 |.s v::r,k,b,h=>by
  cases k with
  |zero=>rw[mV,cC]at h;cases h;exact⟨v,by rw[cC],.inr rfl⟩
  |succ k=>rw[mV,cB]at h;rw[cB];exact vm h
 |.a n es f::r,k,b,h=>by
  rw[mV]at h
  by_cases c:k<n*es
  . rw[cy c]at h⊢;exact⟨b,h,.inl rfl⟩
  . rw[gZ c]at h⊢;exact vm h
theorem denG_rel{l:List ar}{v:Value}(h:Rel ro own (.agg l) v):Rel ro own (.agg (mV l)) v:=by
 obtain⟨m,d,e,b⟩:=cU h;rw[d];refine .agg _ _ _ (by rw[vk];exact e) λk o i=>?_
 obtain⟨u,c,j⟩:=vm i;rcases j with rfl|rfl
 . exact b k _ c
 . exact FU (b k u c)
theorem LR(v:SV):iM (As v)=iM (TR v):=by cases v<;>rfl
theorem qP:∀{l:List ar}{b:List CK},ef (xD l) b->ef (mV l) b
 |[],b,h=>h
 |.s v::r,[],h=>by exact h.elim
 |.s v::r,k::b,h=>by
  simp only[xD,mV,ef,aL]at h⊢;exact⟨by rw[LR];exact h.1,qP h.2⟩
 |.a n es f::r,b,h=>by
  simp only[xD,mV,ef,aL]at h⊢;exact⟨h.1,h.2.1,qP h.2.2⟩
theorem lK:∀{l b:List ar},bG l b=true->bG (mV l) (mV b)=true
 |[],[],_=>rfl
 |.s v::r,.s v'::r',h=>by simp only[bG,mV,Qh]at h⊢;exact lK h
 |.a n es f::r,.a n' es' f'::r',h=>by
  simp only[bG,mV,J2]at h⊢;exact⟨h.1,lK h.2⟩
 |.s v::r,.a n' es' f'::r',h=>by simp[bG]at h
 |.a n es f::r,.s v'::r',h=>by simp[bG]at h
 |[],_::_,h=>by simp[bG]at h
 |_::_,[],h=>by simp[bG]at h
def BY(H:HT)(x y:SV):Option Bool:=match GU x,GU y with
 |false,false=>some (ot x y)
 |_,_=>match pR x,pR y with
  |some a,some b=>eqQ H a b
  |_,_=>none
def js(H:HT):List ar->List ar->Option Bool
 |[],[]=>some true
 |.s x::r,.s y::b=>match BY H x y with
  |some false=>some false
  |some true=>js H r b
  |none=>match js H r b with
   |some false=>some false
   |_=>none
 |_,_=>none
theorem BP{x:SV}{a:YB}{v:Value}(h:pR x=some a)(b:Rel ro own x v):∃n,As x=.int .i64 n/\Dk a n:=by
 obtain⟨n,rfl,c⟩:=Gi h b;have:=FU b;unfold pR at h;split at h
 . cases this;exact⟨_,rfl,c⟩
 . refine⟨n,?_,c⟩;simp only[As]at this⊢;cases this;rfl
 . cases h
theorem xQ{H:HT}(e:yf H){x y:SV}{i j:Value}(k:Rel ro own x i)(o:Rel ro own y j){b:Bool}(h:BY H x y=some b):ot (As x) (As y)=b:=by
 unfold BY at h;split at h
 . rename_i p q;cases h;have c:As x=x:=by cases x<;>first|rfl|cases p
   have d:As y=y:=by cases y<;>first|rfl|cases q
   rw[c,d]
 . split at h
   case h_2=>cases h
   rename_i a A r u;obtain⟨n,c,w⟩:=BP r k;obtain⟨m,d,z⟩:=BP u o;rw[c,d];exact HC e w z h
theorem rZ{H:HT}(e:yf H):∀{l l':List ar}{cs cs':Nat->Value},(∀k c,flat l k=some c->Rel ro own c (cs k))->(∀k c,flat l' k=some c->Rel ro own c (cs' k))->∀{b:Bool},js H l l'=some b->iI (mV l) (mV l')=b
 |[],[],_,_,_,_,_,h=>by cases h;rfl
 |.s x::r,.s y::r',cs,cs',h1,h2,b,h=>by
  have j:=h1 0 x (by rw[cC]);have m:=h2 0 y (by rw[cC]);have o:=λ{b}=>rZ e (l:=r) (l':=r') (cs:=λk=>cs (k+1)) (cs':=λk=>cs' (k+1)) (λk c i=>h1 (k+1) c (by rw[cB];exact i)) (λk c i=>h2 (k+1) c (by rw[cB];exact i)) (b:=b)
  simp only[js]at h;simp only[mV,iI];split at h
  . rename_i d;cases h;rw[xQ e j m d];rfl
  . rename_i d;rw[xQ e j m d,o h];simp
  . split at h
    . rename_i d;cases h;rw[o d];simp
    . cases h
 |[],_::_,_,_,_,_,_,h=>by simp[js]at h
 |.s _::_,[],_,_,_,_,_,h=>by simp[js]at h
 |.a _ _ _::_,[],_,_,_,_,_,h=>by simp[js]at h
 |.a _ _ _::_,_::_,_,_,_,_,_,h=>by simp[js]at h
 |.s _::_,.a _ _ _::_,_,_,_,_,_,h=>by simp[js]at h
end
end Go.Sx
namespace Go.Sx
open Go Go.RowKit
variable [bW]
section
variable {β : Type}
def cd(n:Nat)(k:Nat->β):β:=match n with
 |0=>k 0
 |m+1=>k (Nat.succ m)
def vO(z:Int)(k:Int->β):β:=match z with
 |.ofNat n=>cd n λn=>k (.ofNat n)
 |.negSucc n=>cd n λn=>k (.negSucc n)
def forceB(b:Bool)(k:Bool->β):β:=match b with
 |true=>k true
 |false=>k false
def HG(x:IntKind)(k:IntKind->β):β:=match x with
 |.i8=>k .i8|.i16=>k .i16|.i32=>k .i32|.i64=>k .i64
 |.u8=>k .u8|.u16=>k .u16|.u32=>k .u32|.u64=>k .u64
def dK(x:XE)(k:XE->β):β:=match x with
 |.v i=>cd i λi=>k (.v i)
 |.c n=>vO n λn=>k (.c n)
 |.add a b=>dK a λa=>dK b λb=>k (.add a b)
 |.sub a b=>dK a λa=>dK b λb=>k (.sub a b)
 |.mul a b=>dK a λa=>dK b λb=>k (.mul a b)
 |.quo a b=>dK a λa=>dK b λb=>k (.quo a b)
 |.mn a b=>dK a λa=>dK b λb=>k (.mn a b)
 |.mx a b=>dK a λa=>dK b λb=>k (.mx a b)
def aY(b:Nat)(L:List (List SV))(i:Nat):List SV:=L.getD i (List.replicate b .any)
def wg(R:SV->(SV->β)->β):List SV->(List SV->β)->β
 |[],k=>k []
 |x::r,k=>R x λx=>wg R r λr=>k (x::r)
def AQ(R:SV->(SV->β)->β)(f:Nat->List SV):Nat->List (List SV)->(List (List SV)->β)->β
 |0,b,k=>k b
 |n+1,b,k=>wg R (f n) λr=>AQ R f n (r::b) k
def EO(R:SV->(SV->β)->β)(x:ar)(k:ar->β):β:=match x with
 |.s v=>R v λv=>k (.s v)
 |.a n es f=>cd n λn=>cd es λes=>AQ R f n [] λL=>k (.a n es (aY es L))
def IK(R:SV->(SV->β)->β):List ar->(List ar->β)->β
 |[],k=>k []
 |x::r,k=>EO R x λx=>IK R r λr=>k (x::r)
def Uj:Nat->SV->(SV->β)->β
 |0,x,k=>k x
 |d+1,x,k=>match x with
  |.any=>k .any
  |.bool b=>match b with
   |true=>k .tt
   |false=>k .ff
  |.tt=>k .tt
  |.ff=>k .ff
  |.int a n=>HG a λa=>vO n λn=>k (.int a n)
  |.str s=>k (.str s)
  |.aq=>k .aq
  |.agg l=>IK (Uj d) l λl=>k (.agg l)
  |.df l=>wg (Uj d) l λl=>k (.df l)
  |.ptr a b=>cd a λa=>cd b λb=>k (.ptr a b)
  |.su a b c i j=>cd a λa=>cd b λb=>cd c λc=>cd i λi=>cd j λj=>k (.su a b c i j)
  |.sl a b c n=>cd a λa=>cd b λb=>cd c λc=>cd n λn=>k (.sl a b c n)
  |.bF es n f=>cd es λes=>cd n λn=>AQ (Uj d) f n [] λL=>k (.bF es n (aY es L))
  |.rA es n f i j=>cd es λes=>cd n λn=>cd i λi=>cd j λj=>AQ (Uj d) f n [] λL=>k (.rA es n (aY es L) i j)
  |.fn f a b=>cd f λf=>wg (Uj d) a λa=>wg (Uj d) b λb=>k (.fn f a b)
  |.DG=>k .DG
  |.emp=>k .emp
  |.z9 a=>cd a λa=>k (.z9 a)
  |.km=>k .km
  |.Gu=>k .Gu
  |.pn=>k .pn
  |.Gl e es n f=>k (.Gl e es n f)
  |.sy a e h m=>HG a λa=>dK e λe=>vO h λh=>vO m λm=>k (.sy a e h m)
  |.tg i=>cd i λi=>k (.tg i)
def uv(d:Nat):List (Loc×Item)->(List (Loc×Item)->β)->β
 |[],k=>k []
 |(l,x)::r,k=>
  let go (l:Loc):β:=match x with
   |.v x=>Uj d x λx=>uv d r λr=>k ((l,.v x)::r)
   |.m (some m)=>FF m λm=>uv d r λr=>k ((l,.m (some m))::r)
   |.m none=>uv d r λr=>k ((l,.m none)::r)
   |.s x=>EO (Uj d) x λx=>uv d r λr=>k ((l,.s x)::r)
  match l with
  |.tm t=>go (.tm t)
  |.mt i=>cd i λi=>go (.mt i)
  |.sg i q=>cd i λi=>cd q λq=>go (.sg i q)
end
inductive Trie (α : Type) : Type
 | e
 | nd (l : Trie α) (v : Option α) (r : Trie α)
section
variable {α β : Type}
def Trie.at:Trie α->Nat->Option α
 |.e,_=>none
 |.nd l v r,n=>match n with
  |0=>v
  |m+1=>match m%2 with
   |0=>l.at (m/2)
   |_+1=>r.at (m/2)
def Lp(R:Trie α->Nat->(Trie α->β)->β)(x:α)(n:Nat)(l:Trie α)(v:Option α)(r:Trie α)(k:Trie α->β):β:=match n with
 |0=>k (.nd l (some x) r)
 |m+1=>match m%2 with
  |0=>R l (m/2) λl=>k (.nd l v r)
  |_+1=>R r (m/2) λr=>k (.nd l v r)
def Trie.put(bad:β):Nat->Trie α->Nat->α->(Trie α->β)->β
 |0,_,_,_,_=>bad
 |f+1,t,n,x,k=>match t with
  |.e=>Lp (λt n k=>Trie.put bad f t n x k) x n .e none .e k
  |.nd l v r=>Lp (λt n k=>Trie.put bad f t n x k) x n l v r k
def QQ(bad:β):List α->Nat->α->(List α->β)->β
 |[],_,_,_=>bad
 |_::r,0,v,k=>k (v::r)
 |x::r,n+1,v,k=>QQ bad r n v λr=>k (x::r)
def L0(v:α):Nat->List α->(List α->β)->β
 |0,b,k=>k b
 |n+1,b,k=>L0 v n (v::b) k
end
abbrev Rn:=lZ×List ar
def EA(m:lZ):Nat:=match cz m with
 |true=>1
 |false=>m.ns
structure cg where
 tm : Trie SV
 en : Trie Rn
 nx : Nat
 b0 : Nat
 wr : List Nat
def cg.get(s:cg):Loc->Item
 |.tm t=>.v ((s.tm.at t).getD (.df []))
 |.mt id=>.m ((s.en.at id).map (·.1))
 |.sg id q=>.s (((s.en.at id).bind λe=>e.2[q]?).getD (.s .any))
def jX:Nat:=24
section
variable {β : Type}
def cg.force(s:cg)(k:cg->β):β:=match s with
 |⟨tm,b,c,d,e⟩=>k ⟨tm,b,c,d,e⟩
def cg.Nd(bad:β)(s:cg)(l:Loc)(x:Item)(k:cg->β):β:=match s with
 |⟨tm,b,c,d,e⟩=>match l,x with
  |.tm t,.v x=>Trie.put bad jX tm t x λtm=>k ⟨tm,b,c,d,e⟩
  |.mt id,.m (some m)=>match Nat.ble m.ns 64 with
   |false=>bad
   |true=>match b.at id with
   |some (_,l)=>Trie.put bad jX b id (m,l) λb=>match Nat.blt id d with
    |true=>k ⟨tm,b,c,d,id::e⟩
    |false=>k ⟨tm,b,c,d,e⟩
   |none=>match Nat.beq id c with
    |true=>L0 (ar.s .any) (EA m) [] λz=>Trie.put bad jX b id (m,z) λb=>cd (Nat.succ c) λc=>k ⟨tm,b,c,d,e⟩
    |false=>bad
  |.sg id q,.s x=>match b.at id with
   |some (m,l)=>QQ bad l q x λl=>Trie.put bad jX b id (m,l) λb=>match Nat.blt id d with
    |true=>k ⟨tm,b,c,d,id::e⟩
    |false=>k ⟨tm,b,c,d,e⟩
   |none=>bad
  |_,_=>bad
def I6(bad:β)(s:cg)(b:List (Loc×Item))(k:cg->β):β:=match b with
 |[]=>k s
 |(l,x)::r=>s.Nd bad l x λs=>I6 bad s r k
end
def sameKey:SV->SV->Option Bool
 |.int k a,.int c b=>if k=c then some (a==b)else none
 |.str a,.str b=>some (a==b)
 |_,_=>none
def yM(f:Nat->List SV)(b:SV):Nat->Nat->Option (Option Nat)
 |0,_=>some none
 |n+1,i=>match f i with
  |[k,_]=>match sameKey b k with
   |some true=>some (some i)
   |some false=>yM f b n (i+1)
   |none=>none
  |_=>none
def gd:lZ:=⟨0,true,false,none,0,2,[]⟩
def vH(P:Program)(N b:Nat)(c:Option Tmp)(T:TypeId)(r:Option Operand):Tx:=
 match r,P.underlying T,c with
 |none,some (.map _ _),some d=>if d<N then oO b (.done [(.mt b,.m (some gd)),(.sg b 0,.s (.a 0 2 λ_=>[])),(.tm d,.v (.z9 b))])else .fail
 |_,_,_=>.fail
def Ie(P:Program)(k:TypeId):SV->Bool
 |.int c _=>match P.underlying k with|some (.int b)=>c==b|_=>false
 |.str _=>match P.underlying k with|some .string=>true|_=>false
 |_=>false
def xw(P:Program)(N:Nat)(b:Option Tmp)(T:TypeId)(x c:SV):Tx:=
 match P.underlying T with
 |some (.map k e)=>match zeroOf P e with
  |some (_,.bool false)=>match Ie P k c with
   |true=>match x with
    |.km=>bm N b .ff
    |.z9 id=>DJ id λm=>if cz m=true then Dx id 0 λ
     |.a n 2 f=>match yM f c n 0 with
      |some none=>bm N b .ff
      |some (some i)=>match f i with
       |[_,v]=>bm N b v
       |_=>.fail
      |none=>.fail
     |_=>.fail
     else .fail
    |_=>.fail
   |false=>.fail
  |_=>.fail
 |_=>.fail
def qy(P:Program)(c:Option Tmp)(T:TypeId)(x b v:SV):Tx:=
 match c,P.underlying T,x with
 |none,some (.map k e),.z9 id=>match Ie P k b&&fM v,bZ P e with
  |true,some false=>DJ id λm=>if cz m=true then Dx id 0 λ
   |.a n 2 f=>match yM f b n 0 with
    |some none=>.done [(.sg id 0,.s (.a (n+1) 2 λj=>match Nat.beq j n with|true=>[b,v]|false=>f j))]
    |_=>.fail
   |_=>.fail
   else .fail
  |_,_=>.fail
 |_,_,_=>.fail
def Cx(P:Program)(N b:Nat)(c:Option Tmp)(T:TypeId)(x:SV):Tx:=
 match P.underlying T,x,c with
 |some .string,.str l,some d=>if d<N then oO b (.done [(.mt b,.m (some gd)),(.sg b 0,.s (.a 1 3 λ_=>[.str l,.int .i64 0])),(.tm d,.v (.ptr b 0))])else .fail
 |_,_,_=>.fail
def Hh(N:Nat)(b:Option Tmp)(x:SV):Tx:=
 match x with
 |.ptr id 0=>DJ id λm=>if cz m=true then Dx id 0 λ
  |.a 1 3 f=>match f 0 with
   |[.str l,.int .i64 (.ofNat pos)]=>match b with
    |some d=>if d<N then(match l[pos]? with
     |some c=>match Nat.blt c.toNat 128 with
      |true=>.done [(.sg id 0,.s (.a 1 3 λ_=>[.str l,.int .i64 ((pos+1:Nat):Int)])),(.tm d,.v (.df [.tt,.int .i64 (pos:Int),.int .i32 (c.toNat:Int)]))]
      |false=>.fail
     |none=>.done [(.tm d,.v (.df [.ff]))])else .fail
    |none=>.fail
   |_=>.fail
  |_=>.fail
  else .fail
 |_=>.fail
def Rt:SV->Option Bool
 |.aq=>some true
 |.emp|.sl _ _ _ (_+1)|.bF _ (_+1) _=>some false
 |_=>none
def HO:Operand->Bool
 |.const (.slice none 0 0)=>true
 |_=>false
def HX(P:Program)(T:TypeId):Bool:=match P.underlying T with
 |some (.slice _)=>true
 |_=>false
def IE(N:Nat)(c:Option Tmp)(d:BinOp)(x:SV):Tx:=match Rt x,d with
 |some b,.eql=>bm N c (.bool b)
 |some b,.neq=>bm N c (.bool (!b))
 |_,_=>.fail
def tf(N:Nat)(b:Option Tmp)(x:SV):Tx:=match x with
 |.ptr _ _|.su _ _ _ _ _|.rA _ _ _ _ _|.fn _ _ _=>bm N b x
 |_=>.fail
def AM(P:Program)(N:Nat)(b:Option Tmp)(T:TypeId):Tx:=match P.underlying T with
 |some (.slice e)=>match gi P e,P.info? e with
  |some z,some i=>if z.length=i.size/\0<i.size then bm N b .emp else .fail
  |_,_=>.fail
 |_=>.fail
def txSliceE(P:Program)(N:Nat)(c:Option Tmp)(T:TypeId)(x:SV)(l h:Int)(b:Tx):Tx:=
 match x with
 |.aq=>if l=0/\h=0 then bm N c .aq else .fail
 |.emp=>if l=0/\h=0 then bm N c .emp else .fail
 |.sl id d off len=>if l=h/\0<=l/\h<=(len:Int)then(if l=0 then bm N c (.sl id d off 0)else bm N c (.bF 1 0 λ_=>[]))else b
 |_=>b
def Ue:SV->Nat
 |.sl _ _ _ n=>n
 |_=>0
def Cl(N:Nat)(b:Option Tmp)(x:SV)(h m:Int):Tx:=
 match x with
 |.sl id d off len=>if h=m/\0<=h/\h<=(len:Int)then cn [.sl id d off h.toNat] λ
  |[.bF e n f],ws=>(bm N b (.bF e n f)).bind λc=>.done (ws++c)
  |_,_=>.fail
  else .fail
 |.bF es len f=>if h=m/\0<=h/\h<=(len:Int)then bm N b (.bF es h.toNat f)else .fail
 |_=>.fail
def isEmpty:SV->Bool
 |.aq|.emp|.bF _ 0 _|.sl _ _ _ 0=>true
 |_=>false
def oU(P:Program)(T:TypeId):Bool:=match P.underlying T with
 |some (.slice e)=>(cw P e).isSome
 |_=>false
def isSlice:SV->Bool
 |.aq|.emp|.bF _ _ _|.sl _ _ _ _=>true
 |_=>false
def FD:SV->Bool
 |.emp=>true
 |_=>false
def CR(b:Option Tmp)(x:SV):Tx:=match b,x with
 |none,.bF _ 0 _=>.done []
 |none,.aq=>.done []
 |none,.emp=>.done []
 |_,_=>.fail
def xg(P:Program)(H:HT)(N:Nat)(c:Option Tmp)(d:BinOp)(T:TypeId)(x y:SV):Tx:=
 match pR x,pR y with
 |some a,some b=>match d with
  |.quo=>oF N c (OX H a b)
  |_=>match P.underlying T with
   |some (.int _)=>oF N c (Wg H d a b)
   |_=>.fail
 |_,_=>.fail
def CZ(P:Program)(H:HT)(N:Nat)(c:Option Tmp)(h:BinOp)(T:TypeId)(l d:List ar):Tx:=
 match dC P 8 T with
 |some e=>if P.eqGuardType P.depth T=false/\bG l d=true/\bZ P T=some true then kK (ef (xD l) e/\ef (xD d) e) (match js H l d,h with
  |some b,.eql=>bm N c (.bool b)
  |some b,.neq=>bm N c (.bool (!b))
  |_,_=>.fail)else .fail
 |none=>.fail
def GN(P:Program)(H:HT)(N:Nat)(b:Option Tmp)(c:BinOp)(T:TypeId)(x y:SV):Tx:=
 match x with
 |.sy _ _ _ _=>xg P H N b c T x y
 |.agg l=>match y with
  |.agg d=>match MI l||MI d with
   |true=>CZ P H N b c T l d
   |false=>yp P N b c T x y
  |_=>.fail
 |_=>match y with
  |.sy _ _ _ _=>xg P H N b c T x y
  |_=>yp P N b c T x y
def MM(H:HT)(N:Nat)(b:Option Tmp)(c:UnOp)(x:SV):Tx:=match x with
 |.sy _ _ _ _=>match pR x,c with
  |some a,.neg=>oF N b (MO H a)
  |_,_=>.fail
 |_=>PO N b c x
def Dq(P:Program)(H:HT)(N c:Nat)(b:Option Tmp)(S D:TypeId)(x:SV):Tx:=match x with
 |.sy .i64 e d h=>match P.underlying S,P.underlying D with
  |some (.int _),some (.int .i64)=>oF N b (Hb H (e,d,h))
  |_,_=>.fail
 |_=>yQ P N c b S D x
def RF(f:YB->YB->Option SV)(N:Nat)(c:Option Tmp)(x y:SV):Tx:=match pR x,pR y with
 |some a,some b=>oF N c (f a b)
 |_,_=>.fail
def MD:List SV->Bool
 |[]=>false
 |.sl _ _ _ _::_=>true
 |_::r=>MD r
def mI(P:Program)(N c:Nat)(h:Option Tmp)(T:TypeId)(b:Nat)(i:List Nat)(m:List SV):Tx:=
 iL m λj k=>match P.underlying T with
 |some (.slice e)=>match gi P e,cw P e with
  |some z,some es=>if z.length=es/\0<es/\b*es<=16777216 then(match aaM b es (i.zip j) (λ_=>z)with
   |some f=>match h with
    |some d=>if d<N then oO c (.done (k++(lO c true (some e) es [.a b es f]++[(.tm d,.v (.sl c 0 0 b))])))else .fail
    |none=>.fail
   |none=>.fail)else .fail
  |_,_=>.fail
 |_=>.fail
def Zo(P:Program)(H:HT)(N d:Nat)(o:Oper):Tx:=
 match o.op with
 |.unOp op T x=>fR x (MM H N o.dst op)
 |.convert S D x=>fR x (Dq P H N d o.dst S D)
 |.makeMap T r=>vH P N d o.dst T r
 |.lookup T x k ok=>if ok=false then fR x λx=>fR k λk=>xw P N o.dst T x k else .fail
 |.mapUpdate T m k v=>fR m λm=>fR k λk=>fR v λv=>qy P o.dst T m k v
 |.nilCheck x=>fR x (tf N o.dst)
 |.range T x=>fR x (Cx P N d o.dst T)
 |.next x b=>if b=true then fR x (Hh N o.dst)else .fail
 |.binOp op T x y _=>if HO y&&HX P T then fR x (IE N o.dst op)else fR x λx=>fR y λy=>GN P H N o.dst op T x y
 |.makeSlice T l c=>fR l λx=>match x with
  |.int .i64 (.ofNat 0)=>fR c λy=>match y with
   |.int .i64 (.ofNat 0)=>AM P N o.dst T
   |_=>.fail
  |_=>kf P N (λ_=>none) d o
 |.buildSlice T 0 parts=>if parts.size=0 then AM P N o.dst T else .fail
 |.buildSlice T len parts=>jI (parts.toList.map (·.2)) λj=>match MD j with
  |true=>mI P N d o.dst T len (parts.toList.map (·.1)) j
  |false=>dS P N d o.dst T len ((parts.toList.map (·.1)).zip j)
 |.slice T x i e mx=>match mx with
  |none=>fR x λx=>kf.rdOpt i λi=>kf.rdOpt e λe=>match oU P T,Dc i,CW (Ue x) e with
   |true,some l,some h=>txSliceE P N o.dst T x l h (kf P N (λ_=>none) d o)
   |_,_,_=>kf P N (λ_=>none) d o
  |some mx=>match i,e with
   |none,some e=>fR x λx=>fR e λe=>fR mx λmx=>match oU P T,e,mx with
    |true,.int _ h,.int _ m=>Cl N o.dst x h m
    |_,_,_=>.fail
   |_,_=>.fail
 |.call c=>match c.callee with
  |.builtin .append=>jI c.args.toList λ
   |[x,y]=>match c.argTypes.toList with
    |[t,t']=>if t=t'/\oU P t=true then(match isEmpty y with
     |true=>if isSlice x=true then bm N o.dst x else .fail
     |false=>match FD x with
      |true=>kY P N d o.dst t .aq y
      |false=>kf P N (λ_=>none) d o)else kf P N (λ_=>none) d o
    |_=>.fail
   |_=>.fail
  |.builtin .max=>jI c.args.toList λ
   |[x,y,z]=>match Ga x y with
    |some v=>oF N o.dst (Ga v z)
    |none=>.fail
   |[x,y]=>match GU x||GU y with
    |true=>RF (NV H) N o.dst x y
    |false=>kf P N (λ_=>none) d o
   |_=>kf P N (λ_=>none) d o
  |.builtin .min=>jI c.args.toList λ
   |[x,y]=>match GU x||GU y with
    |true=>RF (PS H) N o.dst x y
    |false=>kf P N (λ_=>none) d o
   |_=>kf P N (λ_=>none) d o
  |.builtin .clear=>jI c.args.toList λ
   |[x]=>match c.argTypes.toList with
    |[t]=>if oU P t=true then CR o.dst x else .fail
    |_=>.fail
   |_=>.fail
  |.builtin .len=>jI c.args.toList λ
   |[x]=>match FD x with
    |true=>match c.argTypes.toList with
     |[t]=>if oU P t=true then bm N o.dst (.int .i64 0)else .fail
     |_=>.fail
    |false=>kf P N (λ_=>none) d o
   |_=>kf P N (λ_=>none) d o
  |_=>kf P N (λ_=>none) d o
 |_=>kf P N (λ_=>none) d o
def Tx.lh(s:cg):Tx->List Loc->Option (List Loc×List (Loc×Item))
 |.done b,R=>some (R,b)
 |.rd l f,R=>(f (s.get l)).lh s (l::R)
 |.AU _ _,_=>none
 |.kK _ d a,R=>match d with
  |.isTrue _=>a.lh s R
  |.isFalse _=>none
 |.fail,_=>none
inductive Out : Type
 | n (s : cg)
 | x (i : Nat) (s : cg)
 | r (s : cg)
 | bad (f : Nat) (i : Nat)
inductive rV : Type
 | ok (r : SV) (s : cg)
 | bad (f : Nat) (i : Nat)
structure DX where
 P : Program
 I : Nat -> Option Func
 D : Nat -> Option (List SV -> Option SV)
 H : HT
abbrev Da:=Nat×Nat
def scal1:SV->Bool
 |.bool _|.tt|.ff|.int _ _|.str _|.aq|.emp|.km|.Gu|.pn|.sy _ _ _ _=>true
 |_=>false
def uM:List ar->Bool
 |[]=>true
 |.s v::r=>scal1 v&&uM r
 |.a _ _ _::_=>false
def Az:List SV->Bool
 |[]=>true
 |.agg l::r=>uM l&&Az r
 |v::r=>scal1 v&&Az r
def VD:SV->Bool
 |.agg l=>uM l
 |.df l=>Az l
 |v=>scal1 v
def yj(b:Option Tmp)(r:SV):List (Loc×Item):=match b with
 |some d=>[(.tm d,.v r)]
 |none=>[]
def IP(r:SV)(c:List (Loc×Item))(b:Option Tmp):List (Loc×Item):=match VD r with
 |true=>yj b r
 |false=>c++yj b r
def Cc(s:cg)(c:Operand):Option Bool:=match c with
 |.tmp t=>match s.get (.tm t)with
  |.v .tt=>some true
  |.v .ff=>some false
  |_=>none
 |.const (.bool b)=>match b with
  |true=>some true
  |false=>some false
 |_=>none
def cA:Nat:=12
def aaJ(s:cg)(o:Oper):Option (Nat×List SV×List SV×Call):=match o.op with
 |.call c=>match c.callee with
  |.value (.func f)=>some (f,[],[],c)
  |.value (.tmp t)=>match s.get (.tm t)with
   |.v (.fn f a b)=>some (f,a,b,c)
   |_=>none
  |_=>none
 |_=>none
def geo(n:Nat):Nat:=(8^n-1)/7
def Tw(n m:Nat):Nat:=geo m*2|||geo (64*n)*4
def Sb(n k:Nat):Nat:=(geo k*2)<<<(3*n)|||(geo (64*k)*4)<<<(192*n)
def Ms(n m:Nat):List Nat->Nat
 |[]=>Sb n (m-n)
 |i::r=>Sb i 1|||Ms n m r
def Wt:Option Tmp->Nat
 |some d=>1<<<(3*d)
 |none=>0
def nK(n:Nat):List Loc->Bool
 |[]=>true
 |.tm _::r=>nK n r
 |.mt i::r=>Nat.blt i n&&nK n r
 |.sg i _::r=>Nat.blt i n&&nK n r
def Gz(c:Call)(R:List Loc):List Loc:=match c.callee with
 |.value (.tmp t)=>.tm t::R
 |_=>R
inductive Au : Type
 | ok (s : cg) (t : Da)
 | bad (f : Nat) (i : Nat)
def FH(F i:Nat)(s:cg)(R:List Loc)(b:List (Loc×Item)):Au:=
 uv cA b λb=>I6 (.bad F i) s b λc=>match nK c.nx R with
  |true=>.ok c (bY R,bY (b.map (·.1)))
  |false=>.bad F i
def Td(F i:Nat)(s:cg)(e:Option Tmp)(d:List SV->Option SV)(j:List SV)(R:List Loc)(c:Unit->Au):Au:=
 match (cn j λb h=>.done ((.tm 0,.v (.df b))::h)).lh s R with
 |some (R,(.tm 0,.v (.df b))::h)=>wg (Uj cA) b λb=>match d b with
  |some r=>FH F i s R (IP r h e)
  |none=>c ()
 |_=>c ()
def S0(F i:Nat)(s:cg)(e:Option Tmp)(R:List Loc)(c:rV):Au:=
 match c with
 |.ok r ⟨_,o,j,_,m⟩=>Uj cA r λr=>match s with
  |⟨tm,_,b,k,h⟩=>match nK b R with
   |true=>
    let t:Da:=(bY R|||Tw b j,Wt e|||Ms b j m)
    match e with
    |some d=>Trie.put (.bad F i) jX tm d r λtm=>.ok ⟨tm,o,j,k,m.filter (Nat.blt · k)++h⟩ t
    |none=>.ok ⟨tm,o,j,k,m.filter (Nat.blt · k)++h⟩ t
   |false=>.bad F i
 |.bad f i=>.bad f i
section
variable (X : DX) (N F : Nat) (call : Nat -> Func -> List SV -> cg -> rV)
def codeD(o:Oper)(i:Nat)(s:cg)(f:Nat)(b:List SV)(R:List Loc):Au:=match X.I f with
 |some fn=>S0 F i s o.dst R (call f fn b s)
 |none=>.bad F (3000+i)
def Fx(o:Oper)(i:Nat)(s:cg)(R:List Loc):Au:=match aaJ s o with
 |some (f,a,b,c)=>match (jI c.args.toList λe=>.done [(.tm 0,.v (.df e))]).lh s (Gz c R)with
  |some (R,[(.tm 0,.v (.df e))])=>match X.D f with
   |some d=>Td F i s o.dst d (a++e++b) R λ_=>codeD X F call o i s f (a++e++b) R
   |none=>codeD X F call o i s f (a++e++b) R
  |_=>.bad F (4000+i)
 |none=>match (Zo X.P X.H N s.nx o).lh s R with
  |some (R,h)=>FH F i s R h
  |none=>.bad F (5000+i)
def I1(b:Array Oper)(o:Oper)(i:Nat)(s:cg):Au:=match o.guard with
 |none=>Fx X N F call o i s []
 |some (j,want)=>match ir b j with
  |some t=>match s.get (.tm t)with
   |.v .tt=>match want with
    |true=>Fx X N F call o i s [.tm t]
    |false=>FH F i s [.tm t] (lL o.dst)
   |.v .ff=>match want with
    |true=>FH F i s [.tm t] (lL o.dst)
    |false=>Fx X N F call o i s [.tm t]
   |.v (.df [])=>FH F i s [.tm t] (lL o.dst)
   |_=>.bad F (6000+i)
  |none=>.bad F (7000+i)
def AE(c:Array Oper)(b:Bool):List Oper->Nat->cg->List Da->(cg->List Da->Out)->Out
 |[],_,s,tr,k=>k s tr
 |o::rest,i,s,tr,k=>match I1 X N F call c o i s with
  |.ok d t=>match b with
   |true=>AE c b rest (i+1) d (tr++[t]) k
   |false=>AE c b rest (i+1) d [] k
  |.bad f i=>.bad f i
def Le:List Nat->List Da->List (Nat×Nat×Nat)
 |m::ms,t::ts=>(m,t.1,t.2)::Le ms ts
 |_,_=>[]
def Nr(b:Array Oper)(c:List Da):Bool:=
 Gj 0 (uX b)&&qj 0 (Le (closure (uX b) []) c)
variable (again : Code -> cg -> Out)
def sK:Code->cg->Out
 |.skip,s=>.n s
 |.label _,s=>.n s
 |.seq a b,s=>match sK a s with
  |.n s=>sK b s
  |o=>o
 |.cond c a b,s=>match Cc s c with
  |some true=>sK a s
  |some false=>sK b s
  |none=>.bad F 8000
 |.block id c,s=>match sK c s with
  |.x i s=>match Nat.beq i id with
   |true=>.n s
   |false=>.x i s
  |o=>o
 |.loop c,s=>match sK c s with
  |.n s=>again (.loop c) s
  |o=>o
 |.exit i,s=>.x i s
 |.ret,s=>.r s
 |.scope c,s=>sK c s
 |.region d ops draw,s=>match FL N ops with
  |true=>AE X N F call ops draw ops.toList 0 s [] λs e=>match draw with
   |true=>match Nr ops e with
    |true=>.n s
    |false=>.bad F (10000+d)
   |false=>.n s
  |false=>.bad F 9000
 |_,_=>.bad F 9001
end
def xF(X:DX)(f:Nat)(fn:Func)(o:Out):rV:=
 let go (s:cg):rV:=match (oa X.P fn.results.toList λb=>.done [(.tm 0,.v (oneOf b))]).lh s []with
  |some (R,[(.tm 0,.v r)])=>match nK s.nx R with
   |true=>.ok r s
   |false=>.bad f 9004
  |_=>.bad f 9002
 match o with
 |.n s=>go s
 |.r s=>go s
 |.x _ _=>.bad f 9003
 |.bad f i=>.bad f i
def argsT:List SV->Nat->Trie SV->(Trie SV->rV)->rV
 |[],_,t,k=>k t
 |x::r,i,t,k=>Trie.put (.bad 0 9997) jX t i x λt=>argsT r (Nat.succ i) t k
def oK(X:DX)(b:Nat->Nat->Code->cg->Out)(f:Nat)(fn:Func)(args:List SV)(s:cg):rV:=match Nat.ble args.length fn.ntmps with
 |true=>argsT args 0 .e λtm=>match s with
  |⟨_,d,c,_,_⟩=>xF X f fn (b fn.ntmps f (mB fn) ⟨tm,d,c,c,[]⟩)
 |false=>.bad f 9998
def ev(X:DX):Nat->Nat->Nat->Code->cg->Out
 |0,_,F,_,_=>.bad F 9999
 |n+1,N,F,c,s=>sK X N F (oK X (ev X n)) (ev X n N F) c s
end Go.Sx
namespace Go.Sx
open Go Go.RowKit
variable [bW]
section
variable {α β : Type}
theorem dN(n:Nat)(k:Nat->β):cd n k=k n:=by cases n<;>rfl
theorem vP(z:Int)(k:Int->β):vO z k=k z:=by cases z<;>simp only[vO,dN]
theorem Ay(x:IntKind)(k:IntKind->β):HG x k=k x:=by cases x<;>rfl
theorem dr:∀(x:XE)(k:XE->β),dK x k=k x
 |.v i,k=>by simp only[dK,dN]
 |.c n,k=>by simp only[dK,vP]
 |.add a b,k=>by simp only[dK,dr a,dr b]
 |.sub a b,k=>by simp only[dK,dr a,dr b]
 |.mul a b,k=>by simp only[dK,dr a,dr b]
 |.quo a b,k=>by simp only[dK,dr a,dr b]
 |.mn a b,k=>by simp only[dK,dr a,dr b]
 |.mx a b,k=>by simp only[dK,dr a,dr b]
def Bd(R:Trie α->Nat->Option (Trie α))(x:α)(n:Nat)(l:Trie α)(v:Option α)(r:Trie α):Option (Trie α):=match n with
 |0=>some (.nd l (some x) r)
 |m+1=>match m%2 with
  |0=>(R l (m/2)).map λl=>.nd l v r
  |_+1=>(R r (m/2)).map λr=>.nd l v r
def Trie.ins:Nat->Trie α->Nat->α->Option (Trie α)
 |0,_,_,_=>none
 |f+1,t,n,x=>match t with
  |.e=>Bd (λt n=>Trie.ins f t n x) x n .e none .e
  |.nd l v r=>Bd (λt n=>Trie.ins f t n x) x n l v r
def cZ(o:Option α)(bad:β)(k:α->β):β:=match o with
 |some x=>k x
 |none=>bad
theorem Gp{bad:β}{R:Trie α->Nat->(Trie α->β)->β}{b:Trie α->Nat->Option (Trie α)}(h:∀t n k,R t n k=cZ (b t n) bad k)(x:α)(n:Nat)(l:Trie α)(v:Option α)(r:Trie α)(k:Trie α->β):Lp R x n l v r k=cZ (Bd b x n l v r) bad k:=by
 unfold Lp Bd;cases n with
 |zero=>rfl
 |succ m=>
  simp only;cases m%2 with
  |zero=>simp only[h];cases b l (m/2)<;>rfl
  |succ _=>simp only[h];cases b r (m/2)<;>rfl
theorem Trie.put_eq(bad:β):∀(f:Nat)(t:Trie α)(n:Nat)(x:α)(k:Trie α->β),Trie.put bad f t n x k=cZ (Trie.ins f t n x) bad k
 |0,_,_,_,_=>rfl
 |f+1,t,n,x,k=>by
  cases t with
  |e=>exact Gp (λt n k=>Trie.put_eq bad f t n x k) _ _ _ _ _ _
  |nd l v r=>exact Gp (λt n k=>Trie.put_eq bad f t n x k) _ _ _ _ _ _
theorem Trie.YT(n:Nat):(Trie.e:Trie α).at n=none:=by unfold Trie.at;rfl
theorem Trie.zV(l r:Trie α)(v:Option α)(n:Nat):(Trie.nd l v r).at n=match n with
 |0=>v
 |m+1=>match m%2 with
  |0=>l.at (m/2)
  |_+1=>r.at (m/2):=by
 conv=>lhs;unfold Trie.at
 all_goals rfl
theorem DO{R:Trie α->Nat->Option (Trie α)}{x:α}(i:∀t c n,R t n=some c->∀m,c.at m=if m=n then some x else t.at m){n:Nat}{l:Trie α}{v:Option α}{r c:Trie α}(h:Bd R x n l v r=some c)(m:Nat):c.at m=if m=n then some x else(Trie.nd l v r).at m:=by
 unfold Bd at h;cases n with
 |zero=>
  simp at h;subst h;cases m with
  |zero=>simp[Trie.zV]
  |succ m=>simp[Trie.zV]
 |succ n=>
  simp only at h;cases o:n%2 with
  |zero=>
   simp only[o]at h;cases b:R l (n/2)with
   |none=>rw[b]at h;simp at h
   |some q=>
    rw[b]at h;simp at h;subst h;cases m with
    |zero=>simp[Trie.zV]
    |succ m=>
     have d:=i _ _ _ b (m/2);simp only[Trie.zV];cases p:m%2 with
     |zero=>
      simp only[d]
      by_cases e:m=n
      . subst e;simp
      . rw[JA (by omega),JA (by omega)]
     |succ k=>
      simp only;rw[JA (by omega)]
  |succ j=>
   simp only[o]at h;cases b:R r (n/2)with
   |none=>rw[b]at h;simp at h
   |some u=>
    rw[b]at h;simp at h;subst h;cases m with
    |zero=>simp[Trie.zV]
    |succ m=>
     have d:=i _ _ _ b (m/2);simp only[Trie.zV];cases p:m%2 with
     |zero=>
      simp only;rw[JA (by omega)]
     |succ k=>
      simp only[d]
      by_cases e:m=n
      . subst e;simp
      . rw[JA (by omega),JA (by omega)]
theorem Trie.pY:∀(f:Nat){t b:Trie α}{n:Nat}{x:α},Trie.ins f t n x=some b->∀m,b.at m=if m=n then some x else t.at m
 |0,_,_,_,_,h=>by simp[Trie.ins]at h
 |f+1,t,b,n,x,h=>by
  intro m;cases t with
  |e=>
   simp only[Trie.ins]at h;rw[DO (λt b n h=>Trie.pY f h) h m,Trie.YT,Trie.zV];split
   . rfl
   . cases m with
     |zero=>rfl
     |succ m=>
      simp only;cases m%2<;>simp only[Trie.YT]
  |nd l v r=>
   simp only[Trie.ins]at h;exact DO (λt b n h=>Trie.pY f h) h m
def pP:List α->Nat->α->Option (List α)
 |[],_,_=>none
 |_::r,0,v=>some (v::r)
 |x::r,n+1,v=>(pP r n v).map (x:: ·)
theorem Cd(bad:β):∀(l:List α)(n:Nat)(v:α)(k:List α->β),QQ bad l n v k=cZ (pP l n v) bad k
 |[],_,_,_=>rfl
 |_::_,0,_,_=>rfl
 |x::r,n+1,v,k=>by
  simp only[QQ,pP,Cd bad r];cases pP r n v<;>rfl
theorem ya:∀{l c:List α}{n:Nat}{v:α},pP l n v=some c->n<l.length/\c=l.set n v
 |[],_,_,_,h=>by simp[pP]at h
 |_::_,_,0,_,h=>by simp[pP]at h;subst h;simp
 |x::r,_,n+1,v,h=>by
  simp only[pP]at h;cases b:pP r n v with
  |none=>rw[b]at h;simp at h
  |some e=>
   rw[b]at h;simp at h;subst h;obtain⟨d,rfl⟩:=ya b;exact⟨by simpa using d,rfl⟩
theorem Cn(v:α):∀(n:Nat)(b:List α)(k:List α->β),L0 v n b k=k (List.replicate n v++b)
 |0,_,_=>rfl
 |n+1,b,k=>by
  rw[L0,Cn v n,List.replicate_succ'];simp
end
def GE(b:Nat)(c:Trie Rn):Prop:=∀id e,c.at id=some e->e.1.ns<=64/\e.2.length<=64/\id<b
def gF(n:Nat):Loc->Prop
 |.tm _=>True
 |.mt i=>i<n
 |.sg i _=>i<n
structure Y9 (s s' : cg) (l : Loc) (x : Item) : Prop where
 loc : GE s.nx s.en -> gF s'.nx l
 get : s'.get = St.put s.get l x
 nx : s.nx <= s'.nx
 b0 : s'.b0 = s.b0
 P8 : ∀ id, id < s.b0 -> id < s.nx -> id ∉ s'.wr -> s'.en.at id = s.en.at id /\ id ∉ s.wr
 ge : GE s.nx s.en -> GE s'.nx s'.en
def cg.set(s:cg)(l:Loc)(x:Item):Option cg:=s.Nd none l x some
theorem Rd{β:Type}(bad:β)(s:cg)(l:Loc)(x:Item)(k:cg->β):s.Nd bad l x k=cZ (s.set l x) bad k:=by
 obtain⟨tm,b,i,d,o⟩:=s;unfold cg.set cg.Nd;cases l with
 |tm t=>
  cases x with
  |v x=>simp only[Trie.put_eq];cases Trie.ins jX tm t x<;>rfl
  |m x=>rfl
  |s x=>rfl
 |mt id=>
  cases x with
  |v x=>rfl
  |s x=>rfl
  |m x=>
   cases x with
   |none=>rfl
   |some m=>
    simp only;cases h:Nat.ble m.ns 64 with
    |false=>rfl
    |true=>
    simp only;cases h:b.at id with
    |some e=>
     obtain⟨_,l⟩:=e;simp only[Trie.put_eq];cases Trie.ins jX b id (m,l)with
     |none=>rfl
     |some c=>simp only[cZ];cases Nat.blt id d<;>rfl
    |none=>
     simp only;cases Nat.beq id i with
     |false=>rfl
     |true=>
      simp only[Cn,Trie.put_eq,dN];cases Trie.ins jX b id (m,List.replicate (EA m) (.s .any)++[])<;>rfl
 |sg id q=>
  cases x with
  |v x=>rfl
  |m x=>rfl
  |s x=>
   simp only;cases h:b.at id with
   |none=>rfl
   |some e=>
    obtain⟨m,l⟩:=e;simp only[Cd];cases pP l q x with
    |none=>rfl
    |some j=>
     simp only[cZ,Trie.put_eq];cases Trie.ins jX b id (m,j)with
     |none=>rfl
     |some c=>simp only;cases Nat.blt id d<;>rfl
theorem zb{a b:Nat}:(Nat.blt a b=true)=(a<b):=by simp
theorem WS{s H:cg}{l:Loc}{x:Item}(h:s.set l x=some H):Y9 s H l x:=by
 obtain⟨tm,A,B,C,J⟩:=s;unfold cg.set cg.Nd at h;cases l with
 |tm t=>
  cases x with
  |m x=>simp at h
  |s x=>simp at h
  |v x=>
   simp only[Trie.put_eq]at h;cases d:Trie.ins jX tm t x with
   |none=>rw[d]at h;simp[cZ]at h
   |some K=>
    rw[d]at h;simp[cZ]at h;subst h;have i:=Trie.pY _ d;refine⟨λ_=>trivial,?_,J1 _,rfl,λid _ _ p=>⟨rfl,p⟩,λh=>h⟩
    funext l
    cases l with
    |tm L=>
     simp only[cg.get,St.put,Loc.tm.injEq,i]
     by_cases e:L=t
     . simp[e]
     . simp[e]
    |mt id=>simp[cg.get,St.put]
    |sg id q=>simp[cg.get,St.put]
 |mt id=>
  cases x with
  |v x=>simp at h
  |s x=>simp at h
  |m x=>
   cases x with
   |none=>simp at h
   |some m=>
    simp only at h;cases r:Nat.ble m.ns 64 with
    |false=>simp[r]at h
    |true=>
    have r:=Qk r;simp only[Nat.ble_eq_true_of_le r]at h;cases o:A.at id with
    |some e=>
     obtain⟨R,l⟩:=e;simp only[o,Trie.put_eq]at h;cases d:Trie.ins jX A id (m,l)with
     |none=>rw[d]at h;simp[cZ]at h
     |some w=>
      rw[d]at h;have i:=Trie.pY _ d;have k:∀y,cg.get ⟨tm,w,B,C,y⟩=St.put (cg.get ⟨tm,A,B,C,J⟩) (.mt id) (.m (some m)):=by
       intro y
       funext F
       cases F with
       |tm t=>simp[cg.get,St.put]
       |mt b=>
        simp only[cg.get,St.put,Loc.mt.injEq,i]
        by_cases e:b=id<;>simp[e]
       |sg b q=>
        simp only[cg.get,St.put,i]
        by_cases e:b=id
        . subst e;simp[o]
        . simp[e]
      have z:GE B A->GE B w:=λj b D c=>by
       rw[i]at c;split at c
       . rename_i e;subst e;simp at c;subst c;exact⟨r,(j _ _ o).2⟩
       . exact j b D c
      cases u:Nat.blt id C with
      |true=>
       simp[cZ,u]at h;subst h;refine⟨λj=>(j _ _ o).2.2,k _,J1 _,rfl,λb _ _ p=>?_,z⟩;simp at p;exact⟨by rw[i,JA p.1],p.2⟩
      |false=>
       simp[cZ,u]at h;subst h;have u: ¬id<C:=by rw[<-zb];simp[u]
       refine⟨λj=>(j _ _ o).2.2,k _,J1 _,rfl,λb d _ p=>⟨?_,p⟩,z⟩;simp only at d;rw[i,JA (by omega)]
    |none=>
     simp only[o]at h;cases u:Nat.beq id B with
     |false=>simp[u]at h
     |true=>
      have u:=Jd u;subst u;simp only[Yz,Cn,Trie.put_eq,dN,Kw]at h;cases d:Trie.ins jX A id (m,List.replicate (EA m) (.s .any))with
      |none=>rw[d]at h;simp[cZ]at h
      |some w=>
       rw[d]at h;simp[cZ]at h;subst h;have i:=Trie.pY _ d;refine⟨λ_=>Nat.lt_succ_self _,?_,Nat.le_succ _,rfl,λb E M p=>⟨?_,p⟩,λj b D c=>?_⟩
       . funext F
         cases F with
         |tm t=>simp[cg.get,St.put]
         |mt b=>
          simp only[cg.get,St.put,Loc.mt.injEq,i]
          by_cases e:b=id<;>simp[e]
         |sg b q=>
          simp only[cg.get,St.put,i]
          by_cases e:b=id
          . subst e;simp only[JE,o,Xg,Option.bind_none,Option.getD_none,reduceCtorEq,JF]
            by_cases E:q<EA m
            . simp[E]
            . simp[E]
          . simp[e]
       . simp only at M⊢;rw[i,JA (by omega)]
       . rw[i]at c;split at c
         . rename_i e;subst e;simp at c;subst c;exact⟨r,by simp only[List.length_replicate,EA];split<;>omega,Nat.lt_succ_self _⟩
         . exact⟨(j b D c).1,(j b D c).2.1,Nat.lt_succ_of_lt (j b D c).2.2⟩
 |sg id q=>
  cases x with
  |v x=>simp at h
  |m x=>simp at h
  |s x=>
   simp only at h;cases o:A.at id with
   |none=>simp[o]at h
   |some e=>
    obtain⟨m,l⟩:=e;simp only[o,Cd]at h;cases d:pP l q x with
    |none=>rw[d]at h;simp[cZ]at h
    |some F=>
     obtain⟨N,rfl⟩:=ya d;simp only[d,cZ,Trie.put_eq]at h;cases E:Trie.ins jX A id (m,l.set q x)with
     |none=>rw[E]at h;simp at h
     |some w=>
      rw[E]at h;have i:=Trie.pY _ E;have k:∀y,cg.get ⟨tm,w,B,C,y⟩=St.put (cg.get ⟨tm,A,B,C,J⟩) (.sg id q) (.s x):=by
       intro y
       funext F
       cases F with
       |tm t=>simp[cg.get,St.put]
       |mt b=>
        simp only[cg.get,St.put,i]
        by_cases e:b=id
        . subst e;simp[o]
        . simp[e]
       |sg b O=>
        simp only[cg.get,St.put,Loc.sg.injEq,i]
        by_cases e:b=id
        . subst e
          by_cases G:O=q
          . subst G;simp[N]
          . simp[o,G,Yv G]
        . simp[e]
      have z:GE B A->GE B w:=λj b D c=>by
       rw[i]at c;split at c
       . rename_i e;subst e;simp at c;subst c;exact⟨(j _ _ o).1,by simpa using (j _ _ o).2⟩
       . exact j b D c
      cases u:Nat.blt id C with
      |true=>
       simp[u]at h;subst h;refine⟨λj=>(j _ _ o).2.2,k _,J1 _,rfl,λb _ _ p=>?_,z⟩;simp at p;exact⟨by rw[i,JA p.1],p.2⟩
      |false=>
       simp[u]at h;subst h;have u: ¬id<C:=by rw[<-zb];simp[u]
       refine⟨λj=>(j _ _ o).2.2,k _,J1 _,rfl,λb d _ p=>⟨?_,p⟩,z⟩;simp only at d;rw[i,JA (by omega)]
def cg.app(s:cg):List (Loc×Item)->Option cg
 |[]=>some s
 |(l,x)::r=>match s.set l x with
  |some b=>b.app r
  |none=>none
theorem EW{β:Type}(bad:β):∀(b:List (Loc×Item))(s:cg)(k:cg->β),I6 bad s b k=cZ (s.app b) bad k
 |[],s,k=>rfl
 |(l,x)::r,s,k=>by
  simp only[I6,Rd,cg.app];cases s.set l x with
  |none=>rfl
  |some c=>simp only[cZ,EW bad r]
structure T4 (s s' : cg) (ws : List (Loc × Item)) : Prop where
 get : s'.get = St.apply s.get ws
 nx : s.nx <= s'.nx
 b0 : s'.b0 = s.b0
 P8 : ∀ id, id < s.b0 -> id < s.nx -> id ∉ s'.wr -> s'.en.at id = s.en.at id /\ id ∉ s.wr
 ge : GE s.nx s.en -> GE s'.nx s'.en
 Yt : GE s.nx s.en -> ∀ l ∈ ws.map (·.1), gF s'.nx l
theorem MC:∀{i:List (Loc×Item)}{s d:cg},s.app i=some d->T4 s d i
 |[],s,d,h=>by
  simp[cg.app]at h;subst h;exact⟨rfl,J1 _,rfl,λid _ _ o=>⟨rfl,o⟩,λh=>h,λ_ l p=>by simp at p⟩
 |(l,x)::r,s,d,h=>by
  simp only[cg.app]at h;split at h
  case h_2=>cases h
  rename_i B q;have a:=WS q;have b:=MC h;refine⟨by rw[b.get,a.get];rfl,Jn a.nx b.nx,b.b0.trans a.b0,λid j k u=>?_,λe=>b.ge (a.ge e),λe m c=>?_⟩
  rotate_left
  . simp only[J8,Kd]at c;rcases c with rfl|c
    . have:=a.loc e;have C:=b.nx;cases m<;>simp only[gF]at this⊢ <;>omega
    . exact b.Yt (a.ge e) m c
  obtain⟨w,y⟩:=b.P8 id (by rw[a.b0];exact j) (Qf k a.nx) u;obtain⟨z,A⟩:=a.P8 id j k y;exact⟨w.trans z,A⟩
def oZ(x y:SV):Prop:=∀ro o v,Rel ro o x v->Rel ro o y v
theorem oZ.refl(x:SV):oZ x x:=λ_ _ _ h=>h
def yY(R:SV->SV)(f:Nat->List SV)(n:Nat):List (List SV):=(List.range n).map λi=>(f i).map R
def iW(R:SV->SV):ar->ar
 |.s v=>.s (R v)
 |.a n es f=>.a n es (aY es (yY R f n))
def norm:Nat->SV->SV
 |0,x=>x
 |d+1,x=>match x with
  |.bool b=>match b with
   |true=>.tt
   |false=>.ff
  |.agg l=>.agg (l.map (iW (norm d)))
  |.df l=>.df (l.map (norm d))
  |.bF es n f=>.bF es n (aY es (yY (norm d) f n))
  |.rA es n f i j=>.rA es n (aY es (yY (norm d) f n)) i j
  |.fn f a b=>.fn f (a.map (norm d)) (b.map (norm d))
  |x=>x
section
variable {β : Type} {R : SV -> (SV -> β) -> β} {R' : SV -> SV}
theorem pZ(h:∀x k,R x k=k (R' x)):∀(l:List SV)(k:List SV->β),wg R l k=k (l.map R')
 |[],_=>rfl
 |x::r,k=>by simp only[wg,h,pZ h r,J8]
theorem uo(h:∀x k,R x k=k (R' x))(f:Nat->List SV):∀(n:Nat)(b:List (List SV))(k:List (List SV)->β),AQ R f n b k=k (yY R' f n++b)
 |0,_,_=>rfl
 |n+1,b,k=>by
  simp only[AQ,pZ h,uo h f n,yY,Q7,Qx,J8,Z2,Jq,K0,Jj]
theorem ED(h:∀x k,R x k=k (R' x))(x:ar)(k:ar->β):EO R x k=k (iW R' x):=by
 cases x with
 |s v=>simp only[EO,h,iW]
 |a n es f=>simp only[EO,dN,uo h,iW,Kw]
theorem E0(h:∀x k,R x k=k (R' x)):∀(l:List ar)(k:List ar->β),IK R l k=k (l.map (iW R'))
 |[],_=>rfl
 |x::r,k=>by simp only[IK,ED h,E0 h r,J8]
theorem ug:∀(d:Nat)(x:SV)(k:SV->β),Uj d x k=k (norm d x)
 |0,x,k=>rfl
 |d+1,x,k=>by
  have c:=ug d;cases x with
  |bool b=>cases b<;>rfl
  |int a n=>simp only[Uj,Ay,vP,norm]
  |sy a e h m=>simp only[Uj,Ay,dr,vP,norm]
  |agg l=>simp only[Uj,E0 c,norm]
  |df l=>simp only[Uj,pZ c,norm]
  |bF es n f=>simp only[Uj,dN,uo c,norm,Kw]
  |rA es n f i j=>simp only[Uj,dN,uo c,norm,Kw]
  |fn f a b=>simp only[Uj,dN,pZ c,norm]
  |_=>simp only[Uj,dN,norm]
def iy(d:Nat):Loc×Item->Loc×Item
 |(l,.v x)=>(l,.v (norm d x))
 |(l,.m m)=>(l,.m m)
 |(l,.s x)=>(l,.s (iW (norm d) x))
theorem FW(d:Nat):∀(c:List (Loc×Item))(k:List (Loc×Item)->β),uv d c k=k (c.map (iy d))
 |[],_=>rfl
 |(l,x)::r,k=>by
  have b:=FW d r;cases l<;>cases x with
  |v x=>simp only[uv,dN,ug,b,J8,iy]
  |m x=>cases x<;>simp only[uv,dN,nI,b,J8,iy]
  |s x=>simp only[uv,dN,ED (ug d),b,J8,iy]
end
theorem jh{R:SV->SV}{f:Nat->List SV}{n i b:Nat}(h:i<n):aY b (yY R f n) i=(f i).map R:=by
 simp[aY,yY,h]
theorem se(R:SV->SV)(x:ar):(iW R x).size=x.size:=by cases x<;>rfl
theorem N5(R:SV->SV)(x:ar):(iW R x).es=x.es:=by cases x<;>rfl
theorem Fm(R:SV->SV)(x:ar):(iW R x).shape=x.shape:=by cases x<;>rfl
theorem Ev(R:SV->SV)(x:ar)(k:Nat):(iW R x).at k=(x.at k).map R:=by
 cases x with
 |s v=>cases k<;>rfl
 |a n es f=>
  simp only[iW,ar.at];split
  . rename_i h;have b:0<es:=by
     rcases Jw es with c|c
     . subst c;simp at h
     . exact c
    rw[jh (by rw[K9 b];exact h),J5]
  . rfl
theorem qz(R:SV->SV):∀l:List ar,aa (l.map (iW R))=aa l
 |[]=>rfl
 |x::r=>by simp only[J8,aa,se,qz R r]
theorem yi(R:SV->SV):∀(l:List ar)(k:Nat),flat (l.map (iW R)) k=(flat l k).map R
 |[],_=>rfl
 |x::r,k=>by
  simp only[J8,flat,se,Ev,yi R r];split<;>rfl
theorem nb:∀(d:Nat)(x:SV),oZ x (norm d x)
 |0,x=>oZ.refl x
 |d+1,x=>by
  have w:=nb d;intro ro o v h;cases h with
  |bool _ b=>cases b<;>constructor
  |agg _ l M C h=>
   refine .agg _ _ _ (by rw[qz];exact C) λk z y=>?_
   rw[yi]at y;cases m:flat l k with
   |none=>rw[m]at y;simp at y
   |some u=>rw[m]at y;simp at y;subst y;exact w u _ _ _ (h k u m)
  |df _ l B C h=>
   refine .df _ _ _ (by simpa using C) λi z c=>?_
   rw[J5]at c;cases m:l[i]? with
   |none=>rw[m]at c;simp at c
   |some u=>rw[m]at c;simp at c;subst c;exact w u _ _ _ (h i u m)
  |fe _ es n f a cap h=>exact .fe _ _ _ _ _ _ h
  |bF _ es n f b H cap B D A E h=>
   refine .bF _ _ _ _ _ _ _ B D (λi c=>by rw[jh c,Qj];exact A i c) E λi j z c p=>?_
   rw[jh c,J5]at p;cases m:(f i)[j]? with
   |none=>rw[m]at p;simp at p
   |some u=>rw[m]at p;simp at p;subst p;exact w u _ _ _ (h i j u c m)
  |rA _ es n f i j b H B A E h c=>
   refine .rA _ _ _ _ _ _ _ _ B (λi c=>by rw[jh c,Qj];exact A i c) E (λi j z c p=>?_) c;rw[jh c,J5]at p;cases m:(f i)[j]? with
   |none=>rw[m]at p;simp at p
   |some u=>rw[m]at p;simp at p;subst p;exact w u _ _ _ (h i j u c m)
  |fn _ f a b N O J K m F=>
   refine .fn _ _ _ _ _ _ (by simpa using J) (by simpa using K) (λi z c=>?_) λi z c=>?_
   . rw[J5]at c;cases r:a[i]? with
     |none=>rw[r]at c;simp at c
     |some u=>rw[r]at c;simp at c;subst c;exact w u _ _ _ (m i u r)
   . rw[J5]at c;cases r:b[i]? with
     |none=>rw[r]at c;simp at c
     |some u=>rw[r]at c;simp at c;subst c;exact w u _ _ _ (F i u r)
  |sl _ id G off len b h D=>exact .sl _ _ _ _ _ _ h D
  |Es _ id G off len h A L=>exact .Es _ _ _ _ _ h A L
  |ptr _ id q b h=>exact .ptr _ _ _ _ h
  |su _ id G q i j b h=>exact .su _ _ _ _ _ _ _ h
  |z9 _ id b h=>exact .z9 _ _ _ h
  |DG _ v h=>exact .DG _ _ h
  |sy _ k e R c n h m F=>exact .sy _ _ _ _ _ _ h m F
  |tg _ i v h=>exact .tg _ _ _ h
  |_=>constructor
def Ln:Item->Item->Prop
 |.v x,.v y=>oZ x y
 |.m a,.m b=>a=b
 |.s x,.s y=>x=y\/∃R:SV->SV,(∀v,oZ v (R v))/\y=iW R x
 |_,_=>False
theorem Ln.refl(x:Item):Ln x x:=by
 cases x with
 |v x=>exact oZ.refl x
 |m x=>rfl
 |s x=>exact .inl rfl
structure HZ (x y : ar) : Prop where
 size : y.size = x.size
 es : y.es = x.es
 shape : y.shape = x.shape
 row : ∀ n es f, x = .a n es f -> ∃ g, y = .a n es g
 at_ : ∀ k sv, y.at k = some sv -> ∃ u, x.at k = some u /\ oZ u sv
theorem HZ.of{x y:ar}(h:Ln (.s x) (.s y)):HZ x y:=by
 rcases h with rfl|⟨R,d,rfl⟩
 . exact⟨rfl,rfl,rfl,λn es f h=>⟨f,h⟩,λk b h=>⟨b,h,oZ.refl _⟩⟩
 . refine⟨se _ _,N5 _ _,Fm _ _,λn es f h=>⟨_,by rw[h];rfl⟩,λk b h=>?_⟩;rw[Ev]at h;cases c:x.at k with
   |none=>rw[c]at h;simp at h
   |some u=>rw[c]at h;simp at h;subst h;exact⟨u,rfl,d u⟩
inductive jy : List ar -> List ar -> Prop
 | nil : jy [] []
 | cons {x y : ar} {l r : List ar} (h : HZ x y) (t : jy l r) : jy (x :: l) (y :: r)
theorem jy.size{l r:List ar}(h:jy l r):aa r=aa l:=by
 induction h with
 |nil=>rfl
 |cons h t b=>simp only[aa,h.size,b]
theorem jy.shape{l r:List ar}(h:jy l r):r.map ar.shape=l.map ar.shape:=by
 induction h with
 |nil=>rfl
 |cons h t b=>simp only[J8,h.shape,b]
theorem jy.take{l r:List ar}(h:jy l r)(q:Nat):jy (l.take q) (r.take q):=by
 induction h generalizing q with
 |nil=>simp;exact .nil
 |cons h t b=>
  cases q with
  |zero=>exact .nil
  |succ q=>exact .cons h (b q)
theorem jy.at{l r:List ar}(h:jy l r){q:Nat}{y:ar}(b:r[q]?=some y):∃x,l[q]?=some x/\HZ x y:=by
 induction h generalizing q with
 |nil=>simp at b
 |cons h t c=>
  cases q with
  |zero=>simp at b;subst b;exact⟨_,rfl,h⟩
  |succ q=>simp at b;simpa using c b
theorem jy.flat{l r:List ar}(h:jy l r){k:Nat}{d:SV}(b:flat r k=some d):∃u,flat l k=some u/\oZ u d:=by
 induction h generalizing k with
 |nil=>simp[Go.Sx.flat]at b
 |cons h t e=>
  simp only[Go.Sx.flat,h.size]at b⊢;split at b
  . rename_i c;rw[JB c];exact h.at_ _ _ b
  . rename_i c;rw[JA c];exact e b
theorem jy.az{s c:St}(h:∀l,Ln (s l) (c l))(b n:Nat):jy (s.az b n) (c.az b n):=by
 unfold St.az
 induction (List.range n)with
 |nil=>exact .nil
 |cons q r d=>
  refine .cons ?_ d;have:=h (.sg b q);unfold St.uC;cases e:s (.sg b q)<;>cases i:c (.sg b q)<;>rw[e,i]at this
  case s.s=>exact HZ.of this
  case v.v=>exact HZ.of (Ln.refl _)
  case m.m=>exact HZ.of (Ln.refl _)
  all_goals exact this.elim
theorem bA.weaken{E:Env}{ro:RO}{G:Own}{s D:St}{w:World}{a:Act}(h:bA E ro G s w a)(H:∀l,Ln (s l) (D l)):bA E ro G D w a:=by
 have B:∀id x,D (.mt id)=.m x->s (.mt id)=.m x:=λid x j=>by
  have:=H (.mt id);rw[j]at this;cases c:s (.mt id)<;>rw[c]at this
  case m y=>have:y=x:=this;rw[this]
  all_goals exact this.elim
 refine {below:=h.below,base:=h.base,defs:=h.defs,size:=h.size,tm:=λt sv ht=>?_,cJ:=h.cJ,uU:=h.uU,gK:=λid m J=>?_,fr:=λid J=>h.fr id (B id _ J),mY:=λid m J=>h.mY id m (B id _ J),inj:=λid C m N b c p=>h.inj id C m N b (B _ _ c) (B _ _ p),kk:=h.kk,mp:=⟨λid m n e f c p z=>?_,λid C m N b n e f n' L O c p z A g1 g2=>?_⟩}
 . have:=H (.tm t);rw[ht]at this;cases c:s (.tm t)<;>rw[c]at this
   case v x=>exact this _ _ _ (h.tm t x c)
   all_goals exact this.elim
 . have e:=h.gK id m (B id _ J);have d:=jy.az H id m.ns;refine {st:=λq hq=>by rw[e.st q hq,(d.take q).size],es:=λq x j=>?_,row:=λX=>?_,plain:=λX=>?_,there:=e.there,nil:=λF=>?_,live:=λb Z hz=>?_,dn:=λb Z hz k M=>?_}
   . obtain⟨y,hy,hs⟩:=d.at j;rw[e.es q y hy,hs.es]
   . obtain⟨n,f,c,p⟩:=e.row X;rw[c]at d;cases z:D.az id m.ns with
     |nil=>rw[z]at d;cases d
     |cons y r=>
      rw[z]at d;cases d with
      |cons A t=>
       cases t;obtain⟨g,rfl⟩:=A.row _ _ _ rfl;exact⟨n,g,rfl,p⟩
   . obtain⟨c,p⟩:=e.plain X;exact⟨c,by rw[p,d.shape]⟩
   . obtain⟨h0,f,c⟩:=e.nil F;rw[c]at d;refine⟨h0,?_⟩;cases z:D.az id m.ns with
     |nil=>rw[z]at d;cases d
     |cons y r=>
      rw[z]at d;cases d with
      |cons A t=>
       cases t;obtain⟨g,rfl⟩:=A.row _ _ _ rfl;exact⟨g,rfl⟩
   . have hl:=e.live b Z hz;obtain⟨cs,L,lo,hi,r0,r1,r2,r3,r4,r5,r6⟩:=hl.body;refine⟨hl.low,hl.apart,cs,L,lo,hi,r0,by rw[d.size];exact r1,r2,by rw[d.size];exact r3,λk sv M=>?_,by rw[d.size];exact r5,r6⟩;obtain⟨u,c,p⟩:=d.flat M;exact p _ _ _ (r4 k u c)
   . rw[d.size]at M;obtain⟨v,c,p⟩:=e.dn b Z hz k M;refine⟨v,c,λsv hs=>?_⟩;obtain⟨u,z,A⟩:=d.flat hs;exact A _ _ _ (p u z)
 . have:=H (.sg id 0);rw[z]at this;cases A:s (.sg id 0)<;>rw[A]at this
   case s x=>
    rcases this with rfl|⟨R,K,j⟩
    . exact h.mp.at_ id m n e f (B _ _ c) p A
    . cases x with
      |s v=>simp[iW]at j
      |a n' L O=>
       simp only[iW,ar.a.injEq]at j;obtain⟨rfl,rfl,rfl⟩:=j;obtain⟨b,o,e1,e2,e3,e4,e5,e6⟩:=(h.mp.at_ id m n e O (B _ _ c) p A).at_;refine⟨b,o,e1,e2,e3,e4,?_,e6⟩;cases e5 with
       |map es ac n f F hf=>
        refine .map es ac _ _ F λi x j=>?_
        obtain⟨k,v,f1,f2,f3⟩:=hf i x j;have hi:i<n:=by rw[<-F];exact(K3.1 j).1
        exact⟨R k,R v,by rw[jh hi,f1];rfl,K k _ _ _ f2,K v _ _ _ f3⟩
       |iter l pos n f hf F=>
        obtain⟨k,v,f1,f2,f3⟩:=hf;exact .iter l pos _ _ ⟨R k,R v,by rw[jh (by omega),f1];rfl,K k _ _ _ f2,K v _ _ _ f3⟩ F
   all_goals exact this.elim
 . have key:∀i n e f,D (.sg i 0)=.s (.a n e f)->∃g,s (.sg i 0)=.s (.a n e g):=λi n e f z=>by
    have:=H (.sg i 0);rw[z]at this;cases A:s (.sg i 0)<;>rw[A]at this
    case s x=>
     rcases this with rfl|⟨R,K,j⟩
     . exact⟨_,rfl⟩
     . cases x with
       |s v=>simp[iW]at j
       |a n' L O=>
        simp only[iW,ar.a.injEq]at j;obtain⟨rfl,rfl,rfl⟩:=j;exact⟨_,rfl⟩
    all_goals exact this.elim
   obtain⟨q1,p1⟩:=key id _ _ _ g1;obtain⟨q2,p2⟩:=key C _ _ _ g2;exact h.mp.inj id C m N b _ _ _ _ _ _ (B _ _ c) (B _ _ p) z A p1 p2
theorem dL.weaken{E:Env}{s b:St}{w:World}{a:Act}(h:dL E s w a)(c:∀l,Ln (s l) (b l)):dL E b w a:=by
 obtain⟨ro,own,h⟩:=h;exact⟨ro,own,h.weaken c⟩
theorem Mq(d:Nat)(x:Loc×Item):(iy d x).1=x.1/\Ln x.2 (iy d x).2:=by
 obtain⟨l,x⟩:=x;cases x with
 |v x=>exact⟨rfl,nb d x⟩
 |m x=>exact⟨rfl,rfl⟩
 |s x=>exact⟨rfl,.inr ⟨norm d,nb d,rfl⟩⟩
theorem wq(d:Nat):∀(i:List (Loc×Item)){s b:St},(∀l,Ln (s l) (b l))->∀l,Ln ((s.apply i) l) ((b.apply (i.map (iy d))) l)
 |[],s,b,h,l=>h l
 |x::r,s,b,h,l=>by
  obtain⟨j,k⟩:=Mq d x;obtain⟨c,x⟩:=x;simp only[J8,St.apply];have:iy d (c,x)=(c,(iy d (c,x)).2):=Prod.ext j rfl;rw[this];refine wq d r (λl=>?_) l
  by_cases e:l=c
  . subst e;rw[St.cQ,St.cQ];exact k
  . rw[St.bh _ _ e,St.bh _ _ e];exact h l
end Go.Sx
namespace Go.Sx
open Go Go.RowKit
variable [bW]
section
variable {E : Env} {P : Program} {ro : RO} {own : Own} {s : St} {w : World} {a : Act}
theorem bA.WY(h:bA E ro own s w a)(o:Obj):bA E ro own s (w.alloc o) a:=by
 have i:Below w.heap.size w (w.alloc o):=⟨rfl,rfl,rfl,by unfold World.alloc;simp only[Array.size_push];omega,λk m=>by unfold World.alloc;simp only;rw[Qv,JA (by omega)]⟩;refine h.called i (.refl _) (λb c v d=>?_) λ_ _ _=>rfl
 have j:b<w.heap.size:=block_lt_of_cell (h.cJ b c v d).1;have e:(w.alloc o).heap[b]?=w.heap[b]?:=by unfold World.alloc;simp only;rw[Qv,JA (by omega)]
 exact(h.cJ b c v d).of_heap e
theorem bA.Ow(h:bA E ro own s w a){o:Nat}(hf:s (.mt o)=.m none){b:Nat}{ob:Obj}{n0 e0:Nat}{g0:Nat->List SV}(hB:E.B<=b)(hb:w.heap[b]?=some ob)(ad:∀c t fr,ob≠ .cells c t fr)(al:mD ro own ob n0 e0 g0)(N:∀id m n e f,s (.mt id)=.m (some m)->cz m=true->s (.sg id 0)=.s (.a n e f)->own.env id 0≠some (some b)):
 ∃d,own.le d/\d.env o 0=some (some b)/\d.st o 0=0/\bA E ro d (s.apply [(.mt o,.m (some gd)),(.sg o 0,.s (.a n0 e0 g0))]) w a:=by
 let d:Own:={own with env:=λid u=>if id=o then(if u=0 then some (some b)else none)else own.env id u,st:=λid q=>if id=o then 0 else own.st id q}
 have Z:∀id u x,own.env id u=some x->id≠o:=by
  rintro id u x F rfl;rw[h.fr id hf u]at F;cases F
 have C:own.le d:=by
  refine⟨λid u x F=>?_,λid u x F=>rfl,λid u x q F=>?_,λid u x q F=>rfl⟩
  . simp[d,Z id u x F,F]
  . simp[d,Z id u x F]
 have y:∀id,id≠o->(s.apply [(.mt o,.m (some gd)),(.sg o 0,.s (.a n0 e0 g0))]) (.mt id)=s (.mt id):=λid i=>by
  simp only[St.apply,St.put];rw[JA (by simp),JA (by simpa using i)]
 have M:(s.apply [(.mt o,.m (some gd)),(.sg o 0,.s (.a n0 e0 g0))]) (.mt o)=.m (some gd):=by simp[St.apply,St.put]
 have D:∀id q,id≠o->(s.apply [(.mt o,.m (some gd)),(.sg o 0,.s (.a n0 e0 g0))]) (.sg id q)=s (.sg id q):=λid q i=>by
  simp only[St.apply,St.put];rw[JA (by simp[i]),JA (by simp)]
 have aq:∀t,(s.apply [(.mt o,.m (some gd)),(.sg o 0,.s (.a n0 e0 g0))]) (.tm t)=s (.tm t):=λt=>by
  simp only[St.apply,St.put];rw[JA (by simp),JA (by simp)]
 have R:∀id n,id≠o->(s.apply [(.mt o,.m (some gd)),(.sg o 0,.s (.a n0 e0 g0))]).az id n=s.az id n:=λid n i=>St.dc λq _=>D id q i
 have z:d.env o 0=some (some b):=by simp[d]
 refine⟨d,C,z,by simp[d],{below:=h.below,base:=h.base,defs:=h.defs,size:=h.size,tm:=λt sv ht=>(h.tm t sv (by rw[<-aq t];exact ht)).own C,cJ:=h.cJ,uU:=h.uU,gK:=λid m A=>?_,fr:=λid A u=>?_,mY:=λid m A u hv=>?_,inj:=λid r m m' G H K z1 z2 L h4=>?_,kk:=E.mono _ _ _ _ C (.refl _) h.kk,mp:=⟨λid m n e f H K L=>?_,λid r m m' G n e f n' e' f' H K L h4 g1 g2 h5 h6=>?_⟩}⟩
 . by_cases i:id=o
   . subst i;rw[M]at A;simp only[Item.m.injEq,J3]at A;subst A;have e0:∀s':St,s'.az id gd.ns=[]:=λs'=>rfl
     rw[e0];exact {st:=λq hq=>by simp[gd]at hq,es:=λq x F=>by simp at F,row:=λhr=>by simp[gd]at hr,plain:=λ_=>⟨rfl,rfl⟩,there:=⟨_,z⟩,nil:=(λhn=>by have ac:d.env id 0=some none:=hn;rw[z]at ac;cases ac),live:=λb _ hz=>by simp[gd]at hz,dn:=λb _ _ k hk=>by simp[aa]at hk}
   . rw[y id i]at A;rw[R id _ i];have O:=h.gK id m A;have X:∀u,d.env id u=own.env id u:=λu=>by simp[d,i]
     refine {st:=λq hq=>by simpa[d,i]using O.st q hq,es:=O.es,row:=λhr=>?_,plain:=O.plain,there:=by rw[X];exact O.there,nil:=λhn=>O.nil (by rw[<-X];exact hn),live:=λG J hz=>?_,dn:=λG J hz=>O.dn G (by rw[<-X];exact J) hz}
     . obtain⟨n,f,q1,q2⟩:=O.row hr;exact⟨n,f,q1,λG J=>q2 G (by rw[<-X];exact J)⟩
     . have hl:=O.live G (by rw[<-X];exact J) hz;obtain⟨cs,e',lo,hi,r0,r1,r2,r3,r4,r5,r6⟩:=hl.body;exact⟨hl.low,hl.apart,cs,e',lo,hi,r0,r1,r2,r3,λk sv hk=>(r4 k sv hk).own C,r5,r6⟩
 . by_cases i:id=o
   . subst i;rw[M]at A;cases A
   . rw[y id i]at A;simp only[d,i,JF];exact h.fr id A u
 . by_cases i:id=o
   . subst i;rw[M]at A;simp only[Item.m.injEq,J3]at A;subst A;have:0<u:=hv;simp only[d,JE];rw[JA (by omega)]
   . rw[y id i]at A;simp only[d,i,JF];exact h.mY id m A u hv
 . have ne:∀j mj,(s.apply [(.mt o,.m (some gd)),(.sg o 0,.s (.a n0 e0 g0))]) (.mt j)=.m (some mj)->mj.zW=false->j≠o:=by
    rintro j mj hj aw rfl;rw[M]at hj;simp only[Item.m.injEq,J3]at hj;subst hj;cases aw
   have n1:=ne id m H z1;have n2:=ne r m' K z2;rw[y id n1]at H;rw[y r n2]at K;exact h.inj id r m m' G H K z1 z2 (by simpa[d,n1]using L) (by simpa[d,n2]using h4)
 . by_cases i:id=o
   . subst i;have:(s.apply [(.mt id,.m (some gd)),(.sg id 0,.s (.a n0 e0 g0))]) (.sg id 0)=.s (.a n0 e0 g0):=by simp[St.apply,St.put]
     rw[this]at L;simp only[Item.s.injEq,ar.a.injEq]at L;obtain⟨rfl,rfl,rfl⟩:=L;exact⟨b,ob,z,hB,hb,ad,al.mono (.refl _) C,by simp[d]⟩
   . rw[y id i]at H;rw[D id 0 i]at L;obtain⟨G,o',X,e2,e3,e4,e5,e6⟩:=(h.mp.at_ id m n e f H K L).at_;exact⟨G,o',by simpa[d,i]using X,e2,e3,e4,e5.mono (.refl _) C,by simpa[d,i]using e6⟩
 . by_cases i:id=o
   . by_cases p:r=o
     . rw[i,p]
     . exfalso;subst i;rw[y r p]at K;rw[z]at h5;simp at h5;subst h5;rw[D r 0 p]at g2;exact N r m' _ _ _ K h4 g2 (by simpa[d,p]using h6)
   . by_cases p:r=o
     . exfalso;subst p;rw[y id i]at H;rw[z]at h6;simp at h6;subst h6;rw[D id 0 i]at g1;exact N id m _ _ _ H L g1 (by simpa[d,i]using h5)
     . rw[y id i]at H;rw[y r p]at K;rw[D id 0 i]at g1;rw[D r 0 p]at g2;exact h.mp.inj id r m m' G _ _ _ _ _ _ H K L h4 g1 g2 (by simpa[d,i]using h5) (by simpa[d,p]using h6)
theorem bA.map_lt(h:bA E ro own s w a){c:Nat}{m:lZ}(i:s (.mt c)=.m (some m))(j:cz m=true){n e:Nat}{f:Nat->List SV}(k:s (.sg c 0)=.s (.a n e f)){b:Nat}(d:own.env c 0=some (some b)):b<w.heap.size:=by
 obtain⟨q,r,o,u,p,_,_,_⟩:=(h.mp.at_ c m n e f i j k).at_;rw[o]at d;simp at d;subst d;exact(K3.1 p).1
end
end Go.Sx
