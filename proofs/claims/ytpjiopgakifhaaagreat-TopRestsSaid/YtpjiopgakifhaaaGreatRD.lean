import Derived.Test.YtpjiopgakifhaaaGreatRA
import Derived.Test.YtpjiopgakifhaaaGreatRC
import Derived.Laws.Sem
import Derived.Deep.LoopGhost
import Derived.Scope
import Derived.ProofKit
import Derived.OpenShut
import Derived.ShutString
import Derived.ChangeOld
import Derived.Below
set_option linter.unusedSectionVars false
set_option linter.unusedSimpArgs false
set_option linter.unusedVariables false
set_option maxRecDepth 100000
namespace Go.Sx
open Go Go.RowKit
variable [bW]
def xa(x y:SV):Prop:=match x,y with
 |_,.any=>True
 |.bool b,.bool c=>b=c
 |.tt,.bool b=>b=true
 |.ff,.bool b=>b=false
 |.bool b,.tt=>b=true
 |.bool b,.ff=>b=false
 |.tt,.tt=>True
 |.ff,.ff=>True
 |.int k n,.int d e=>jU (decide (k=d)) (n=e)
 |.str s,.str h=>s=h
 |.aq,.aq=>True
 |.emp,.emp=>True
 |x,.DG=>jU (fM x) True
 |_,_=>False
def Im:List SV->List SV->Prop
 |[],[]=>True
 |x::r,y::r'=>xa x y/\Im r r'
 |_,_=>False
def Dt(x y:SV):Prop:=match x,y with
 |.bF es len f,.bF c b d=>jU (Nat.beq es c) (len=b/\∀i,i<len->Im (f i) (d i))
 |.aq,.bF _ len _=>len=0
 |x,y=>xa x y
def BE:List SV->List SV->Prop
 |[],[]=>True
 |x::r,y::r'=>Dt x y/\BE r r'
 |_,_=>False
def xC(x y:SV):Prop:=match x,y with
 |.bF es len f,.bF c b d=>jU (Nat.beq es c) (len=b/\∀i,i<len->BE (f i) (d i))
 |.aq,.bF _ len _=>len=0
 |x,y=>xa x y
def oP:List SV->List SV->Prop
 |[],[]=>True
 |x::r,y::r'=>xC x y/\oP r r'
 |_,_=>False
def DM(x y:SV):Prop:=match x,y with
 |.bF es len f,.bF c b d=>jU (Nat.beq es c) (len=b/\∀i,i<len->oP (f i) (d i))
 |.aq,.bF _ len _=>len=0
 |x,y=>xa x y
def bK:List SV->List SV->Prop
 |[],[]=>True
 |x::r,y::r'=>DM x y/\bK r r'
 |_,_=>False
abbrev KF:=Nat->Option (Nat×Nat)
abbrev NF:=Nat->Option Nat
def NZ(o:Option (Nat×Nat))(v c:Nat):Bool:=match o with
 |some (a,b)=>Nat.beq a v&&Nat.beq b c
 |none=>false
def Vl(o:Option Nat)(v:Nat):Bool:=match o with
 |some a=>Nat.beq a v
 |none=>false
def wR(h:KF)(u:NF)(x y:SV):Prop:=match x,y with
 |.ptr id q,.ptr c k=>jU (NZ (h id) 0 0&&Nat.beq id c&&Nat.beq q k) True
 |.su id v q i j,.su c m k o p=>jU (NZ (h id) v m&&Nat.beq id c&&Nat.beq q k&&Nat.beq j p) (i=o)
 |.sl id v off len,.sl c m e b=>jU (NZ (h id) v m&&Nat.beq id c) (off=e/\len=b)
 |.aq,.sl id v off len=>jU (Vl (u id) v) (off=0/\len=0)
 |.aq,.bF _ len _=>len=0
 |.bF es len f,.bF d b r=>jU (Nat.beq es d) (len=b/\∀i,i<len->bK (f i) (r i))
 |.rA es len f i j,.rA d b r o p=>jU (Nat.beq es d&&Nat.beq j p) (len=b/\i=o/\∀i,i<len->bK (f i) (r i))
 |x,y=>DM x y
def LV(b:KF)(c:NF):List SV->List SV->Prop
 |[],[]=>True
 |x::r,y::r'=>wR b c x y/\LV b c r r'
 |_,_=>False
def BG(c:KF)(d:NF)(x y:ar):Prop:=match x,y with
 |.s x,.s y=>wR c d x y
 |.a n es f,.a e b h=>n=e/\es=b/\∀i,i<n->LV c d (f i) (h i)
 |_,_=>False
def mA(b:KF)(c:NF):List ar->List ar->Prop
 |[],[]=>True
 |x::r,y::r'=>BG b c x y/\mA b c r r'
 |_,_=>False
def KY(b:KF)(c:NF)(x y:SV):Prop:=match x,y with
 |.agg l,.agg d=>mA b c l d
 |x,y=>wR b c x y
def uP(b:KF)(c:NF):List SV->List SV->Prop
 |[],[]=>True
 |x::r,y::r'=>KY b c x y/\uP b c r r'
 |_,_=>False
def Vh(c:KF)(d:NF)(x y:SV):Prop:=match x,y with
 |.df l,.df e=>uP c d l e
 |.fn f a b,.fn h i j=>f=h/\uP c d a i/\uP c d b j
 |x,y=>KY c d x y
structure Kp (own own' : Own) (kp : KF) (nl : NF) : Prop where
 kept : ∀ id a b, kp id = some (a, b) -> ∀ x, own.env id a = some x -> own'.env id b = some x /\ own'.cap id b = own.cap id a /\ (∀ q, own'.st id q = own.st id q) /\ ∀ q, own'.es id q = own.es id q
 nil : ∀ id v, nl id = some v -> own'.env id v = some none
theorem Kp.none(own b:Own):Kp own b (λ_=>Option.none) (λ_=>Option.none):=⟨(λ_ _ _ h=>by cases h),(λ_ _ h=>by cases h)⟩
section
variable {ro : RO} {own own' : Own} {kp : KF} {nl : NF} {v : Value}
theorem Dy{o:Option (Nat×Nat)}{v b:Nat}(h:NZ o v b=true):o=some (v,b):=by
 unfold NZ at h;split at h
 . simp only[J2,Kq]at h;rw[h.1,h.2]
 . cases h
theorem QD{o:Option Nat}{v:Nat}(h:Vl o v=true):o=some v:=by
 unfold Vl at h;split at h
 . simp only[Kq]at h;rw[h]
 . cases h
theorem tL{x y:SV}(h:xa x y)(b:Rel ro own x v):Rel ro own' y v:=by
 unfold xa at h;split at h
 . exact .any _ _
 . subst h;cases b;exact .bool _ _
 . subst h;cases b;exact .bool _ _
 . subst h;cases b;exact .bool _ _
 . subst h;cases b;exact .tt _
 . subst h;cases b;exact .ff _
 . cases b;exact .tt _
 . cases b;exact .ff _
 . rw[aL,JG]at h;obtain⟨rfl,rfl⟩:=h;cases b;exact .int _ _ _
 . subst h;cases b;exact .str _ _
 . cases b;exact .aq _
 . cases b;exact .emp _ _
 . exact .DG _ _ (gk b (EF (aL.1 h).1))
 . exact h.elim
theorem xo:∀{l c:List SV},Im l c->l.length=c.length/\∀(j:Nat)(y:SV),c[j]?=some y->∃x,l[j]?=some x/\xa x y
 |[],[],_=>⟨rfl,by simp⟩
 |x::r,y::r',h=>by
  have:=xo h.2;refine⟨by simp[this.1],λj z b=>?_⟩;cases j with
  |zero=>simp at b;subst b;exact⟨x,rfl,h.1⟩
  |succ j=>simp at b;obtain⟨u,d,e⟩:=this.2 j z b;exact⟨u,by simpa using d,e⟩
 |[],_::_,h=>h.elim
 |_::_,[],h=>h.elim
theorem O1{x y:SV}(h:Dt x y)(d:Rel ro own x v):Rel ro own' y v:=by
 unfold Dt at h;split at h
 . rw[aL,Kq]at h;obtain⟨rfl,rfl,k⟩:=h;cases d with
   |fe _ _ _ _ a cap m=>exact .fe _ _ _ _ _ _ m
   |bF _ _ _ _ b A cap o p q r h=>
    exact .bF _ _ _ _ _ _ _ o p (λi c=>by rw[<-(xo (k i c)).1];exact q i c) r λi j u c e=>by
     obtain⟨x,w,z⟩:=(xo (k i c)).2 j u e;exact tL z (h i j x c w)
 . subst h;cases d;exact .fe _ _ _ _ _ _ rfl
 . exact tL h d
theorem xI:∀{l c:List SV},BE l c->l.length=c.length/\∀(j:Nat)(y:SV),c[j]?=some y->∃x,l[j]?=some x/\Dt x y
 |[],[],_=>⟨rfl,by simp⟩
 |x::r,y::r',h=>by
  have:=xI h.2;refine⟨by simp[this.1],λj z b=>?_⟩;cases j with
  |zero=>simp at b;subst b;exact⟨x,rfl,h.1⟩
  |succ j=>simp at b;obtain⟨u,d,e⟩:=this.2 j z b;exact⟨u,by simpa using d,e⟩
 |[],_::_,h=>h.elim
 |_::_,[],h=>h.elim
theorem NJ{x y:SV}(h:xC x y)(d:Rel ro own x v):Rel ro own' y v:=by
 unfold xC at h;split at h
 . rw[aL,Kq]at h;obtain⟨rfl,rfl,k⟩:=h;cases d with
   |fe _ _ _ _ a cap m=>exact .fe _ _ _ _ _ _ m
   |bF _ _ _ _ b A cap o p q r h=>
    exact .bF _ _ _ _ _ _ _ o p (λi c=>by rw[<-(xI (k i c)).1];exact q i c) r λi j u c e=>by
     obtain⟨x,w,z⟩:=(xI (k i c)).2 j u e;exact O1 z (h i j x c w)
 . subst h;cases d;exact .fe _ _ _ _ _ _ rfl
 . exact tL h d
theorem zm:∀{l c:List SV},oP l c->l.length=c.length/\∀(j:Nat)(y:SV),c[j]?=some y->∃x,l[j]?=some x/\xC x y
 |[],[],_=>⟨rfl,by simp⟩
 |x::r,y::r',h=>by
  have:=zm h.2;refine⟨by simp[this.1],λj z b=>?_⟩;cases j with
  |zero=>simp at b;subst b;exact⟨x,rfl,h.1⟩
  |succ j=>simp at b;obtain⟨u,d,e⟩:=this.2 j z b;exact⟨u,by simpa using d,e⟩
 |[],_::_,h=>h.elim
 |_::_,[],h=>h.elim
theorem Dj{x y:SV}(h:DM x y)(d:Rel ro own x v):Rel ro own' y v:=by
 unfold DM at h;split at h
 . rw[aL,Kq]at h;obtain⟨rfl,rfl,k⟩:=h;cases d with
   |fe _ _ _ _ a cap m=>exact .fe _ _ _ _ _ _ m
   |bF _ _ _ _ b A cap o p q r h=>
    exact .bF _ _ _ _ _ _ _ o p (λi c=>by rw[<-(zm (k i c)).1];exact q i c) r λi j u c e=>by
     obtain⟨x,w,z⟩:=(zm (k i c)).2 j u e;exact NJ z (h i j x c w)
 . subst h;cases d;exact .fe _ _ _ _ _ _ rfl
 . exact tL h d
theorem tM:∀{l c:List SV},bK l c->l.length=c.length/\∀(j:Nat)(y:SV),c[j]?=some y->∃x,l[j]?=some x/\DM x y
 |[],[],_=>⟨rfl,by simp⟩
 |x::r,y::r',h=>by
  have:=tM h.2;refine⟨by simp[this.1],λj z b=>?_⟩;cases j with
  |zero=>simp at b;subst b;exact⟨x,rfl,h.1⟩
  |succ j=>simp at b;obtain⟨u,d,e⟩:=this.2 j z b;exact⟨u,by simpa using d,e⟩
 |[],_::_,h=>h.elim
 |_::_,[],h=>h.elim
theorem uN(K:Kp own own' kp nl){x y:SV}(h:wR kp nl x y)(k:Rel ro own x v):Rel ro own' y v:=by
 unfold wR at h;split at h
 . simp only[aL,J2,Kq]at h;obtain⟨⟨⟨c,rfl⟩,rfl⟩,_⟩:=h;have c:=Dy c;cases k with
   |ptr _ _ _ b m=>
    obtain⟨o,_,q,_⟩:=K.kept _ _ _ c _ m;rw[<-q];exact .ptr _ _ _ _ o
 . simp only[aL,J2,Kq]at h;obtain⟨⟨⟨⟨c,rfl⟩,rfl⟩,rfl⟩,rfl⟩:=h;have c:=Dy c;cases k with
   |su _ _ _ _ _ _ b m=>
    obtain⟨o,_,q,r⟩:=K.kept _ _ _ c _ m;rw[<-q,<-r];exact .su _ _ _ _ _ _ _ o
 . simp only[aL,J2,Kq]at h;obtain⟨⟨c,rfl⟩,rfl,rfl⟩:=h;have c:=Dy c;cases k with
   |sl _ _ _ _ _ b m u=>
    obtain⟨o,D,_,r⟩:=K.kept _ _ _ c _ m;rw[<-D,<-r];exact .sl _ _ _ _ _ _ o (by rw[D];exact u)
   |Es _ _ _ _ _ m E F=>
    obtain⟨o,_,_,_⟩:=K.kept _ _ _ c _ m;exact .Es _ _ _ _ _ o E F
 . rw[aL]at h;obtain⟨c,rfl,rfl⟩:=h;have c:=QD c;cases k;exact .Es _ _ _ _ _ (K.nil _ _ c) rfl rfl
 . subst h;cases k;exact .fe _ _ _ _ _ _ rfl
 . rw[aL,Kq]at h;obtain⟨rfl,rfl,p⟩:=h;cases k with
   |fe _ _ _ _ a cap G=>exact .fe _ _ _ _ _ _ G
   |bF _ _ _ _ b H cap w u z A h=>
    exact .bF _ _ _ _ _ _ _ w u (λi d=>by rw[<-(tM (p i d)).1];exact z i d) A λi j B d e=>by
     obtain⟨x,c,C⟩:=(tM (p i d)).2 j B e;exact Dj C (h i j x d c)
 . simp only[aL,J2,Kq]at h;obtain⟨⟨rfl,rfl⟩,rfl,rfl,p⟩:=h;cases k with
   |rA _ _ _ _ _ _ b H w z A h d=>
    exact .rA _ _ _ _ _ _ _ _ w (λi d=>by rw[<-(tM (p i d)).1];exact z i d) A (λi j B d e=>by
     obtain⟨x,c,C⟩:=(tM (p i d)).2 j B e;exact Dj C (h i j x d c)) d
 . exact Dj h k
theorem CP:∀{l c:List SV},LV kp nl l c->l.length=c.length/\∀(j:Nat)(y:SV),c[j]?=some y->∃x,l[j]?=some x/\wR kp nl x y
 |[],[],_=>⟨rfl,by simp⟩
 |x::r,y::r',h=>by
  have:=CP h.2;refine⟨by simp[this.1],λj z b=>?_⟩;cases j with
  |zero=>simp at b;subst b;exact⟨x,rfl,h.1⟩
  |succ j=>simp at b;obtain⟨u,d,e⟩:=this.2 j z b;exact⟨u,by simpa using d,e⟩
 |[],_::_,h=>h.elim
 |_::_,[],h=>h.elim
theorem Fo{x y:ar}(h:BG kp nl x y):x.size=y.size/\x.es=y.es/\x.shape=y.shape/\∀(k:Nat)(b:SV),y.at k=some b->∃a,x.at k=some a/\wR kp nl a b:=by
 unfold BG at h;split at h
 . refine⟨rfl,rfl,rfl,λk b c=>?_⟩;cases k with
   |zero=>simp[ar.at]at c;subst c;exact⟨_,rfl,h⟩
   |succ k=>cases c
 . obtain⟨rfl,rfl,i⟩:=h;rename_i n es f j;refine⟨rfl,rfl,rfl,λk b c=>?_⟩;simp only[ar.at]at c⊢;split at c
   case isFalse=>cases c
   rename_i e;rw[JB e];have:k/es<n:=by
    rcases Jw es with d|d
    . subst d;simp at e
    . rwa[K9 d]
   exact(CP (i _ this)).2 _ b c
 . exact h.elim
theorem kF:∀{l c:List ar},mA kp nl l c->l.length=c.length/\aa l=aa c/\l.map ar.shape=c.map ar.shape/\
 (∀q,aa (l.take q)=aa (c.take q))/\(∀(q:Nat)(y:ar),c[q]?=some y->∃x,l[q]?=some x/\BG kp nl x y)/\∀(k:Nat)(b:SV),flat c k=some b->∃a,flat l k=some a/\wR kp nl a b
 |[],[],_=>⟨rfl,rfl,rfl,λ_=>rfl,by simp,λk b h=>by cases h⟩
 |x::r,y::r',h=>by
  obtain⟨m,o,p,w,A,B⟩:=kF h.2;obtain⟨i,G,C,D⟩:=Fo h.1;refine⟨by simp[m],by simp[aa,i,o],by simp[C,p],λq=>?_,λq z e=>?_,λk b d=>?_⟩
  . cases q with
    |zero=>rfl
    |succ q=>simp only[Qu,aa,i,w q]
  . cases q with
    |zero=>simp at e;subst e;exact⟨x,rfl,h.1⟩
    |succ q=>simp at e;obtain⟨u,E,F⟩:=A q z e;exact⟨u,by simpa using E,F⟩
  . simp only[flat,i]at d⊢
    by_cases j:k<y.size
    . rw[JB j]at d⊢;exact D k b d
    . rw[JA j]at d⊢;exact B _ b d
 |[],_::_,h=>h.elim
 |_::_,[],h=>h.elim
theorem nC(K:Kp own own' kp nl){x y:SV}(h:KY kp nl x y)(b:Rel ro own x v):Rel ro own' y v:=by
 unfold KY at h;split at h
 . obtain⟨_,c,_,_,_,d⟩:=kF h;obtain⟨q,rfl,e,i⟩:=cU b;refine .agg _ _ _ (by rw[e,c]) λk j m=>?_
   obtain⟨a,o,p⟩:=d k j m;exact uN K p (i k a o)
 . exact uN K h b
theorem tW:∀{l c:List SV},uP kp nl l c->l.length=c.length/\∀(j:Nat)(y:SV),c[j]?=some y->∃x,l[j]?=some x/\KY kp nl x y
 |[],[],_=>⟨rfl,by simp⟩
 |x::r,y::r',h=>by
  have:=tW h.2;refine⟨by simp[this.1],λj z b=>?_⟩;cases j with
  |zero=>simp at b;subst b;exact⟨x,rfl,h.1⟩
  |succ j=>simp at b;obtain⟨u,d,e⟩:=this.2 j z b;exact⟨u,by simpa using d,e⟩
 |[],_::_,h=>h.elim
 |_::_,[],h=>h.elim
theorem C3(K:Kp own own' kp nl){x y:SV}(h:Vh kp nl x y)(i:Rel ro own x v):Rel ro own' y v:=by
 unfold Vh at h;split at h
 . obtain⟨j,m⟩:=tW h;cases i with
   |df _ _ D o p=>
    refine .df _ _ _ (by rw[o,j]) λk b c=>?_
    obtain⟨a,d,e⟩:=m k b c;exact nC K e (p k a d)
 . obtain⟨rfl,q,r⟩:=h;obtain⟨u,w⟩:=tW q;obtain⟨z,A⟩:=tW r;cases i with
   |fn _ _ _ _ E F j m B C=>
    refine .fn _ _ _ _ _ _ (by rw[j,u]) (by rw[m,z]) (λk b c=>?_) (λk b c=>?_)
    . obtain⟨a,d,e⟩:=w k b c;exact nC K e (B k a d)
    . obtain⟨a,d,e⟩:=A k b c;exact nC K e (C k a d)
 . exact nC K h i
end
def GX(m b:lZ):Bool:=
 m.row==b.row&&m.zW==b.zW&&(match m.app,b.app with|some t,some c=>Nat.beq t c|none,none=>true|_,_=>false)&&Nat.beq m.ns b.ns&&Nat.beq m.es b.es&&(m.row||(Nat.beq m.aD 0&&Nat.beq b.aD 0))
def eK(s:bg)(b:Nat):Option Nat:=(s.en[b]?).map (·.1.aD)
def kpOf(s c:bg):KF:=λid=>match eK s id,eK c id with
 |some a,some b=>some (a,b)
 |_,_=>none
def Rc(s c:bg):NF:=λid=>match eK s id,eK c id with
 |none,some b=>some b
 |_,_=>none
def Pk(b:KF)(c:NF):List SV->List SV->Prop
 |_,[]=>True
 |x::r,y::r'=>Vh b c x y/\Pk b c r r'
 |[],.any::r'=>Pk b c [] r'
 |[],_::_=>False
def DS(c:KF)(d:NF):List (lZ×List ar)->List (lZ×List ar)->Prop
 |_,[]=>True
 |(m,l)::r,(b,l')::r'=>match GX m b&&Nat.beq l.length m.ns&&Nat.beq l'.length b.ns with
  |true=>(match m.zW with
   |true=>m.sh=b.sh/\mA (λ_=>none) (λ_=>none) l l'/\DS c d r r'
   |false=>m.sh=b.sh/\mA c d l l'/\DS c d r r')
  |false=>False
 |[],(b,l')::r'=>match b.row&& !b.zW&&Nat.beq b.ns 1,l' with
  |true,[.a n es _]=>n=0/\es=b.es/\DS c d [] r'
  |_,_=>False
def Ma(s b:bg):Prop:=Pk (kpOf s b) (Rc s b) s.tm b.tm/\DS (kpOf s b) (Rc s b) s.en b.en
theorem Cs{b:KF}{c:NF}:∀{l d:List SV},Pk b c l d->∀(t:Nat)(y:SV),d[t]?=some y->y=.any\/∃x,l[t]?=some x/\Vh b c x y
 |_,[],_,t,y,h=>by simp at h
 |x::r,y::r',h,t,z,hz=>by
  cases t with
  |zero=>simp at hz;subst hz;exact .inr ⟨x,rfl,h.1⟩
  |succ t=>simp at hz;simpa using Cs h.2 t z hz
 |[],y::r',h,t,z,hz=>by
  cases y<;>first|exact h.elim|skip
  cases t with
  |zero=>simp at hz;exact .inl hz.symm
  |succ t=>
   simp at hz;simp only[Pk]at h;exact Cs (l:=[]) h t z hz
structure WH (kp : KF) (nl : NF) (m m' : lZ) (l l' : List ar) : Prop where
 row : m.row = m'.row
 zW : m.zW = m'.zW
 app : m.app = m'.app
 ns : m.ns = m'.ns
 es : m.es = m'.es
 sh : m.sh = m'.sh
 zero : m.row = false -> m.aD = 0 /\ m'.aD = 0
 len : l.length = m.ns
 az : mA (if m.zW then fun _ => none else kp) (if m.zW then fun _ => none else nl) l l'
theorem EI{m b:lZ}(h:GX m b=true):m.row=b.row/\m.zW=b.zW/\m.app=b.app/\m.ns=b.ns/\m.es=b.es/\(m.row=false->m.aD=0/\b.aD=0):=by
 simp only[GX,J2,JN,Kq,Qz]at h;obtain⟨⟨⟨⟨⟨i,j⟩,c⟩,k⟩,o⟩,p⟩:=h;refine⟨i,j,?_,k,o,λq=>p.resolve_left (by simp[q])⟩;split at c
 . rename_i t r d e;rw[d,e,Jd c]
 . rename_i d e;rw[d,e]
 . cases c
theorem tX{i:KF}{j:NF}:∀{e p:List (lZ×List ar)},DS i j e p->∀(id:Nat)(b:lZ)(d:List ar),p[id]?=some (b,d)->(∃m l,e[id]?=some (m,l)/\WH i j m b l d)\/
 (e[id]?=none/\b.row=true/\b.ns=1/\∃f,d=[.a 0 b.es f])
 |_,[],_,id,b,d,h=>by simp at h
 |(m,l)::r,(b,d)::r',h,id,m1,l1,h1=>by
  simp only[DS]at h;split at h
  case h_2=>exact h.elim
  rename_i c;simp only[J2,Kq]at c;obtain⟨⟨c,k⟩,q⟩:=c;obtain⟨u,w,x,y,z,A⟩:=EI c;have:(m.sh=b.sh/\mA (if m.zW then λ_=>none else i) (if m.zW then λ_=>none else j) l d)/\DS i j r r':=by
   split at h
   . rename_i o;simp only[o,JE];exact⟨⟨h.1,h.2.1⟩,h.2.2⟩
   . rename_i o;simp only[o,Jr,JF];exact⟨⟨h.1,h.2.1⟩,h.2.2⟩
  cases id with
  |zero=>
   simp at h1;obtain⟨rfl,rfl⟩:=h1;exact .inl ⟨m,l,rfl,u,w,x,y,z,this.1.1,A,k,this.1.2⟩
  |succ id=>simp at h1;simpa using tX this.2 id m1 l1 h1
 |[],(b,d)::r',h,id,m1,l1,h1=>by
  simp only[DS]at h;split at h
  case h_2=>exact h.elim
  rename_i c;simp only[J2,Kq]at c;obtain⟨B,C,D⟩:=h;subst B C;cases id with
  |zero=>
   simp at h1;obtain⟨rfl,rfl⟩:=h1;exact .inr ⟨rfl,c.1.1,c.2,_,rfl⟩
  |succ id=>
   simp at h1;have:=tX (e:=[]) D id m1 l1 h1;simpa using this
theorem yW{s:bg}{c:Nat}{m:lZ}{l:List ar}(h:s.en[c]?=some (m,l)):St.az s.get c l.length=l:=by
 apply Xc;intro q
 by_cases b:q<l.length
 . rw[St.bL _ _ _ _ b,J4 b];simp[St.uC,bg.get,h,b]
 . rw[J7 (by rw[St.dX];omega),J7 (by omega)]
theorem sa{s:bg}{b:Nat}{m:lZ}(h:s.get (.mt b)=.m (some m)):∃l,s.en[b]?=some (m,l):=by
 simp only[bg.get,Item.m.injEq,Jp]at h;obtain⟨⟨e,l⟩,d,c⟩:=h;simp at c;subst c;exact⟨l,d⟩
theorem DB{E:Env}(hK:∀o r,E.K o r){s p:bg}{w:World}{a:Act}(h:Ma s p)(hs:dL E s.get w a):dL E p.get w a:=by
 obtain⟨ro,own,O⟩:=hs;obtain⟨bf,ac⟩:=h
 let c:Own:={
  env:=λid v=>if eK p id=some v then(match eK s id with|some x=>own.env id x|none=>some none)else none
  cap:=λid _=>match eK s id with|some x=>own.cap id x|none=>0
  st:=λid q=>match eK s id with|some _=>own.st id q|none=>0
  es:=λid q=>match eK s id with|some _=>own.es id q|none=>((p.en[id]?).map (·.1.es)).getD 0}
 have K:Kp own c (kpOf s p) (Rc s p):=by
  refine⟨λid x y R z F=>?_,λid v hn=>?_⟩
  . unfold kpOf at R;split at R
    case h_2=>cases R
    rename_i x' y' e1 e2;simp at R;obtain⟨rfl,rfl⟩:=R;simp[c,e1,e2,F]
  . unfold Rc at hn;split at hn
    case h_2=>cases hn
    rename_i y' e1 e2;simp at hn;subst hn;simp[c,e1,e2]
 have ax:∀{id C},p.get (.mt id)=.m (some C)->eK p id=some C.aD:=λh=>by
  obtain⟨l,X⟩:=sa h;simp[eK,X]
 have bh:vG E.B ro c p.get w:=by
  have no:∀id m n e f,p.get (.mt id)=.m (some m)->cz m=true->p.get (.sg id 0)≠ .s (.a n e f):=by
   intro id m n e f J H;obtain⟨M,i⟩:=sa J;have ay:m.ns=0:=by simp[cz]at H;exact H.2
   rcases tX ac id m M i with⟨m0,l,X,kk⟩|⟨_,D,_⟩
   . have bb:M.length=0:=by have:=kk.len;have:=kk.ns;have:=(kF kk.az).1;omega
     have:M=[]:=Kr bb;subst this;simp[bg.get,i]
   . simp[cz,D]at H
  exact⟨λid m n e f J H h3=>absurd h3 (no id m n e f J H),λid bd m C b n e f n' e' f' J H h3 h4 g1 _ _ _=>absurd g1 (no id m n e f J h3)⟩
 refine⟨ro,c,{below:=O.below,base:=O.base,defs:=O.defs,size:=O.size,tm:=?_,cJ:=O.cJ,uU:=O.uU,gK:=?_,fr:=?_,mY:=?_,inj:=?_,kk:=hK _ _,mp:=bh}⟩
 . intro t sv Z;simp only[bg.get,Item.v.injEq]at Z;cases hy:p.tm[t]? with
   |none=>
    rw[J0,hy]at Z;simp at Z;subst Z;exact .any _ _
   |some y=>
    rw[J0,hy]at Z;simp at Z;subst Z;rcases Cs bf t y hy with rfl|⟨x,hx,ad⟩
    . exact .any _ _
    . exact C3 K ad (O.tm t x (by simp[bg.get,hx]))
 . intro id C al;obtain⟨M,i⟩:=sa al;rcases tX ac id C M i with⟨m,l,X,kk⟩|⟨u,D,ay,f,rfl⟩
   . have N:s.get (.mt id)=.m (some m):=by simp[bg.get,X]
     have he:=O.gK id m N;have e1:St.az s.get id m.ns=l:=by rw[<-kk.len];exact yW X
     obtain⟨p1,p2,p3,p4,p5,p6⟩:=kF kk.az;have e2:St.az p.get id C.ns=M:=by rw[<-kk.ns,<-kk.len,p1];exact yW i
     have v1:eK s id=some m.aD:=by simp[eK,X]
     have v2:eK p id=some C.aD:=by simp[eK,i]
     rw[e1]at he;rw[e2];have d:c.env id C.aD=own.env id m.aD:=by simp[c,v1,v2]
     have L:c.cap id C.aD=own.cap id m.aD:=by simp[c,v1]
     have bi:c.st id=own.st id:=by funext q;simp[c,v1]
     have be:c.es id=own.es id:=by funext q;simp[c,v1]
     have one:∀{n es f},l=[.a n es f]->∃f',M=[.a n es f']:=by
      intro n es f bp;subst bp;have bt:=kk.az
      match M,bt with
      |[.a n' es' f'],h0=>obtain⟨⟨rfl,rfl,_⟩,_⟩:=h0;exact⟨f',rfl⟩
     constructor
     . intro q hq;rw[bi,he.st q (by rw[kk.ns];exact hq),p4 q]
     . intro q x hx;obtain⟨y,hy,ad⟩:=p5 q x hx;rw[be,he.es q y hy,(Fo ad).2.1]
     . intro G;rw[<-kk.row]at G;obtain⟨n,f,h0,J⟩:=he.row G;obtain⟨f',H⟩:=one h0;refine⟨n,f',by rw[H,kk.es],λb j=>?_⟩;rw[d]at j;rw[L];exact J b j
     . intro G;rw[<-kk.row]at G;exact⟨(kk.zero G).2,by rw[<-kk.sh,(he.plain G).2,p3]⟩
     . rw[d];exact he.there
     . intro hn;rw[d]at hn;obtain⟨h0,f,J⟩:=he.nil hn;obtain⟨f',H⟩:=one J;exact⟨by rw[<-kk.row];exact h0,f',by rw[H,kk.es]⟩
     . intro b j F;rw[d]at j;rw[<-kk.zW]at F;have aq:=he.live b j F;have A:=kk.az;rw[F]at A;simp only[Jr,JF]at A;obtain⟨_,_,_,_,_,aw⟩:=kF A;obtain⟨cs,e,lo,hi,r0,r1,r2,r3,r4,r5,r6⟩:=aq.body;refine⟨aq.low,aq.apart,cs,e,lo,hi,r0,by rw[<-p2];exact r1,λt Z=>?_,by rw[<-p2];exact r3,λk sv R=>?_,λG=>?_,λG=>?_⟩
       . rw[L];exact r2 t (by rw[kk.app];exact Z)
       . obtain⟨a0,q1,q2⟩:=aw k sv R;exact uN K q2 (r4 k a0 q1)
       . rw[<-p2];exact r5 (by rw[kk.row];exact G)
       . rw[L,be];exact r6 (by rw[kk.row];exact G)
     . intro b j F k R;rw[d]at j;rw[<-kk.zW]at F;obtain⟨v,J,H⟩:=he.dn b j F k (by rw[p2];exact R);have A:=kk.az;rw[F]at A;simp only[JE]at A;obtain⟨_,_,_,_,_,aw⟩:=kF A;refine⟨v,J,λsv bv=>?_⟩;obtain⟨a0,q1,q2⟩:=aw k sv bv;exact uN (Kp.none _ _) q2 (H a0 q1)
   . have v1:eK s id=none:=by simp[eK,u]
     have v2:eK p id=some C.aD:=by simp[eK,i]
     have e2:St.az p.get id C.ns=[ar.a 0 C.es f]:=by rw[ay];exact yW i
     have d:c.env id C.aD=some none:=by simp[c,v1,v2]
     rw[e2];constructor
     . intro q hq;have:q=0:=by omega
       subst this;simp[c,v1,aa]
     . intro q x hx;cases q with
       |zero=>simp at hx;subst hx;simp[c,v1,i,ar.es]
       |succ q=>simp at hx
     . intro _;exact⟨0,f,rfl,λb j=>by rw[d]at j;cases j⟩
     . intro G;rw[D]at G;cases G
     . exact⟨_,d⟩
     . intro _;exact⟨D,f,rfl⟩
     . intro b j;rw[d]at j;cases j
     . intro b j;rw[d]at j;cases j
 . intro id N aD;have:eK p id=none:=by
    simp only[bg.get,Item.m.injEq,Option.map_eq_none_iff]at N;simp[eK,N]
   simp[c,this]
 . intro id m N aD hv;have:=ax N;simp only[c,this,J3];rw[JA (by omega)]
 . intro id bd m C b N al F bz j bF;have kept:∀{id m},p.get (.mt id)=.m (some m)->m.zW=false->c.env id m.aD=some (some b)->∃m0,s.get (.mt id)=.m (some m0)/\m0.zW=false/\own.env id m0.aD=some (some b):=by
    intro id m N F j;obtain⟨M,i⟩:=sa N;have v2:eK p id=some m.aD:=by simp[eK,i]
    rcases tX ac id m M i with⟨m0,l,X,kk⟩|⟨u,_⟩
    . have v1:eK s id=some m0.aD:=by simp[eK,X]
      refine⟨m0,by simp[bg.get,X],by rw[kk.zW];exact F,?_⟩;simpa[c,v1,v2]using j
    . have v1:eK s id=none:=by simp[eK,u]
      simp[c,v1,v2]at j
   obtain⟨m1,a1,a2,a3⟩:=kept N F j;obtain⟨m2,b1,b2,b3⟩:=kept al bz bF;exact O.inj id bd m1 m2 b a1 b1 a2 b2 a3 b3
end Go.Sx
namespace Go.Sx
open Go Go.RowKit
variable [bW]
section
variable {E : Env} {P : Program} {ro : RO} {own : Own} {s : St} {w : World} {a : Act} {N : Nat}
theorem mf{c:Value}{d:Option Tmp}{T:TypeId}{A:Addr}{v:Value}{y:SV}(e:c=.pointer (some A))(b:(loadVar T A).run P w=.ok v w)(h:Rel ro own y v)
 {ws} (i:(bm N d y).ok s ws):∃A v y,c=.pointer (some A)/\(loadVar T A).run P w=.ok v w/\Rel ro own y v/\(bm N d y).ok s ws:=⟨A,v,y,e,b,h,i⟩
theorem Ml(h:bA E ro own s w a){x':SV}{v0:Value}{d:Option Tmp}{T:TypeId}(hx:Rel ro own x' v0){ws}(c:(x6 P N d T x').ok s ws):∃A v y,v0=.pointer (some A)/\(loadVar T A).run P w=.ok v w/\Rel ro own y v/\(bm N d y).ok s ws:=by
 unfold x6 at c;split at c
 case h_2=>exact c.elim
 rename_i agg n hT hn;split at c
 ·
  rename_i id q;obtain⟨b,hb,e⟩:=JI hx;obtain⟨m,J,c⟩:=fG c;have O:=h.gK id m J;split at c
  . exact c.elim
  rename_i r;have r:m.row=false:=by simpa using r
  obtain⟨x,ax⟩:=O.plain r;have R:own.env id m.aD=some (some b):=by rw[x];exact hb
  cases agg with
  |true=>
   simp only[JE]at c;split at c
   case isFalse=>exact c.elim
   rename_i L;have c:=vg c;rw[St.BL]at c;split at c
   case h_2=>exact c.elim
   rename_i l' ad;obtain⟨e1,e2,e3⟩:=gW ad;have al:=O.st q L;have B:∀k,k<n->∃v,w.cell? ⟨b,own.st id q+k,none⟩=some v/\∀H,flat l' k=some H->Rel ro own H v:=by
    intro k p;obtain⟨v,e,C⟩:=h.DR J R (k:=own.st id q+k) (by have:=rM (s.az id m.ns) q;omega);exact⟨v,e,λH hs=>C H (by rw[al,AZ,<-e3 k p];exact hs)⟩
   refine mf e (jP hT hn (vs:=λk=>(w.cell? ⟨b,own.st id q+k,none⟩).getD undef) λk p=>?_) (y:=.agg l') ?_ c
   . obtain⟨v,e,_⟩:=B k p;rw[e];rfl
   . refine .agg _ _ _ (by simp[e1]) λk H hs=>?_
     have p:k<n:=by rw[<-e1];exact cK hs
     obtain⟨v,e,C⟩:=B k p;rw[ve n (λk=>(w.cell? ⟨b,own.st id q+k,none⟩).getD undef) k p];simp only[e];exact C H hs
  |false=>
   simp only[Jr,JF]at c;obtain⟨y,hy,c⟩:=lf c;split at c
   case h_2=>exact c.elim
   rename_i u;split at c
   case isFalse=>exact c.elim
   rename_i L;have o:(s.az id m.ns)[q]?=some (.s u):=by rw[St.bL _ _ _ _ L,hy]
   have X:=tO o 0 (by simp[ar.size]);rw[<-O.st q L]at X;obtain⟨v,hc,C⟩:=h.cell J R X;exact mf e (jN hT hc) C c
 ·
  rename_i id aD q i j;obtain⟨b,hb,e⟩:=tI hx;obtain⟨m,J,c⟩:=fG c;have O:=h.gK id m J;split at c
  case isFalse=>exact c.elim
  rename_i aq;obtain⟨x,L⟩:=aq;rw[<-x]at hb;obtain⟨y,hy,c⟩:=lf c;split at c
  case h_2=>exact c.elim
  rename_i k es f;obtain⟨Z,c⟩:=c;split at c
  case isFalse=>exact c.elim
  rename_i D;split at c
  case h_2=>exact c.elim
  rename_i z hz;have o:(s.az id m.ns)[q]?=some (.a k es f):=by rw[St.bL _ _ _ _ L,hy]
  have aw:own.es id q=es:=by rw[O.es q _ o];rfl
  obtain⟨v,F,C⟩:=rb (ro:=ro) (own:=own) (w:=w) hT hn (b:=b) (off:=own.st id q+i*es) hz (λK H G=>by
   have ac:K<es:=by rw[<-D];exact(Jb.1 G).1
   have M:i*es+K<(ar.a k es f).size:=by
    simp only[ar.size];have:(i+1)*es<=k*es:=Jl _ Z;rw[Ji]at this;omega
   have X:=tO o (i*es+K) M;rw[lM Z ac,G,<-O.st q L]at X;obtain⟨v,e,C⟩:=h.cell J hb X;exact⟨v,by rw[Kt];exact e,C⟩)
  rw[aw]at e;exact mf e F C c
 ·
  rename_i es len f i j;obtain⟨b,k0,vs,e,Z,hl,J,hh⟩:=wT hx;split at c
  case isFalse=>exact c.elim
  rename_i D;split at c
  case h_2=>exact c.elim
  rename_i z hz;obtain⟨v,F,C⟩:=rb (ro:=ro) (own:=own) (w:=w) hT hn (b:=b) (off:=k0+i*es) hz (λK H G=>by
   have ac:K<es:=by rw[<-D];exact(Jb.1 G).1
   have M:i*es+K<len*es:=by
    have:(i+1)*es<=len*es:=Jl _ Z;rw[Ji]at this;omega
   exact⟨vs (i*es+K),by rw[Kt];exact(h.cJ _ _ _ (J _ M)).1,(hh i K H Z G).own (Own.empty_le _)⟩)
  exact mf e F C c
 . exact c.elim
end
def Tx.bind:Tx->(List (Loc×Item)->Tx)->Tx
 |.done b,f=>f b
 |.rd l k,f=>.rd l λx=>(k x).bind f
 |.AU p k,f=>.AU p (k.bind f)
 |.kK p d k,f=>.kK p d (k.bind f)
 |.fail,_=>.fail
theorem Tx.uB{s:St}{f:List (Loc×Item)->Tx}{ws}:∀{t:Tx},(t.bind f).ok s ws->∃b,t.ok s b/\(f b).ok s ws
 |.done b,h=>⟨b,rfl,h⟩
 |.rd l k,h=>Tx.uB (t:=k (s l)) h
 |.AU p k,h=>let⟨b,c,d⟩:=Tx.uB (t:=k) h.2;⟨b,⟨h.1,c⟩,d⟩
 |.kK p _ k,h=>let⟨b,c,d⟩:=Tx.uB (t:=k) h.2;⟨b,⟨h.1,c⟩,d⟩
 |.fail,h=>h.elim
def Mp(P:Program)(r:ResultVar)(k:SV->Tx):Tx:=match r with
 |.tmp t=>rdT t k
 |.cell t T=>(rdT t λx=>x6 P 1 (some 0) T x).bind λ
  |[(_,.v y)]=>k y
  |_=>.fail
def oa(P:Program):List ResultVar->(List SV->Tx)->Tx
 |[],k=>k []
 |r::rs,k=>Mp P r λx=>oa P rs λb=>k (x::b)
def oneOf:List SV->SV
 |[x]=>x
 |l=>.df l
def pk:KF:=λ_=>none
def eL:NF:=λ_=>none
def S1(P:Program)(fn:Func)(r:SV):Tx:=oa P fn.results.toList λc=>cn c λb d=>qn b λb=>.AU (Vh pk eL (oneOf b) r) (.done d)
def H8(P:Program)(fn:Func)(e c n:Nat)(f:Nat->List SV)(j:List SV):Tx:=oa P fn.results.toList λk=>match k with
 |x::rest=>(match x with
  |.aq=>cn rest λb d=>(match d with
   |[]=>.AU (n=0/\uP pk eL b j) (.done [])
   |_=>.fail)
  |.sl id o off len=>DJ id λm=>if m.row=true/\m.aD=o/\m.es=c/\m.zW=false/\m.app=some e/\m.ns=1 then Dx id 0 λ
   |.a p h g=>if h=c then cn rest λb d=>(match d with
    |[]=>.AU ((off=0/\len=n/\n<=p)/\(∀i,i<n->yr c (g i)=true/\LV pk eL (g i) (f i))/\uP pk eL b j) (.done [])
    |_=>.fail)else .fail
   |_=>.fail
   else .fail
  |_=>.fail)
 |[]=>.fail
def MH(P:Program)(fn:Func)(r:SV):Tx:=match r with
 |.Gl e es n f=>H8 P fn e es n f []
 |.df (.Gl e es n f::b)=>match b with
  |[]=>.fail
  |_::_=>H8 P fn e es n f b
 |r=>S1 P fn r
def vK(b:Array Value):ResultVar->Sem Value
 |.tmp t=>pure (b.getD t undef)
 |.cell a t=>do loadVar t (<-asAddr (b.getD a undef))
def Runs{α:Type}(P:Program)(w:World)(g:α->Sem Value):List α->List Value->Prop
 |[],[]=>True
 |x::l,v::vs=>(g x).run P w=.ok v w/\Runs P w g l vs
 |_,_=>False
theorem E9{P:Program}{w:World}{α:Type}{g:α->Sem Value}:∀{l:List α}{b:List Value},Runs P w g l b->(l.mapM g).run P w=.ok b w
 |[],[],_=>by simp[Sem.run_pure]
 |x::l,v::b,h=>by
  simp[Sem.run_bind,h.1,E9 h.2]
 |[],_::_,h=>h.elim
 |_::_,[],h=>h.elim
def QZ:List Value->Value
 |[v]=>v
 |l=>.tuple l.toArray
theorem lX{P:Program}{w:World}{fn:Func}{b:Array Value}{c:List Value}(h:Runs P w (vK b) fn.results.toList c):
 (results fn b).run P w=.ok (QZ c) w:=by
 have e:results fn b=(do let c<-fn.results.mapM (vK b);pure (if h:c.size=1 then c[0]else .tuple c)):=by
  unfold results
  congr 1
 rw[e,Array.mapM_eq_mapM_toList];simp[E9 h]
 match c with
 |[]=>rfl
 |[v]=>rfl
 |v::u::r=>simp[QZ]
section
variable {E : Env} {P : Program} {ro : RO} {own : Own} {s : St} {w : World} {a : Act}
theorem Cq(h:bA E ro own s w a){t:Nat}{k:SV->Tx}{ws}(b:(rdT t k).ok s ws):∃x,Rel ro own x (a.tmps.getD t undef)/\(k x).ok s ws:=by
 have:=aZ (o:=.tmp t) h b;exact this
theorem WI(h:bA E ro own s w a){r:ResultVar}{k:SV->Tx}{ws}(e:(Mp P r k).ok s ws):∃x v,(vK a.tmps r).run P w=.ok v w/\Rel ro own x v/\(k x).ok s ws:=by
 cases r with
 |tmp t=>
  obtain⟨x,b,c⟩:=Cq h e;exact⟨x,_,by simp[vK,Sem.run_pure],b,c⟩
 |cell t T=>
  obtain⟨d,b,c⟩:=Tx.uB e;obtain⟨x,i,j⟩:=Cq h b;obtain⟨A,v,y,m,o,p,q⟩:=Ml h i j;have:d=[(.tm 0,.v y)]:=by simpa[bm,Tx.ok,eq_comm]using q
  subst this;exact⟨y,v,by simp[vK,m,asAddr,o],p,c⟩
theorem ra(h:bA E ro own s w a):∀{l:List ResultVar}{k:List SV->Tx}{ws},(oa P l k).ok s ws->∃c d,Runs P w (vK a.tmps) l d/\aQ ro own c d/\(k c).ok s ws
 |[],k,ws,b=>⟨[],[],trivial,trivial,b⟩
 |r::l,k,ws,b=>by
  obtain⟨x,v,e,i,b⟩:=WI h b;obtain⟨c,d,j,m,b⟩:=ra h b;exact⟨x::c,v::d,⟨e,j⟩,⟨i,m⟩,b⟩
theorem aQ.one{b:List SV}{c:List Value}(h:aQ ro own b c):Rel ro own (oneOf b) (QZ c):=by
 have df:Rel ro own (.df b) (.tuple c.toArray):=by
  refine .df _ _ _ (by simp[h.length]) λi x d=>?_
  obtain⟨v,e,j⟩:=h.at i x d;simpa[e]using j
 match b,c,h with
 |[],[],_=>exact df
 |[x],[v],h=>exact h.1
 |x::y::r,v::u::q,h=>exact df
theorem kR{ro:RO}{own':Own}:∀{b c:List SV}{d:List Value},uP pk eL b c->aQ ro own b d->aQ ro own' c d
 |[],[],[],_,_=>trivial
 |x::b,y::c,v::d,h,hr=>⟨nC (Kp.none _ _) h.1 hr.1,kR h.2 hr.2⟩
 |[],_::_,_,h,_=>h.elim
 |_::_,[],_,h,_=>h.elim
theorem LC(h:bA E ro own s w a){fn:Func}{r:SV}{ws}(e:(S1 P fn r).ok s ws):
 ∃v c,(results fn a.tmps).run P w=.ok v w/\Rel c Own.empty r v/\ga ro c/\(∀b o v,c b o=some v->eb w b o v)/\∀b o,b<E.B->c b o=E.R b o:=by
 obtain⟨y,z,m,p,e⟩:=ra h e;obtain⟨q,u,i,d,j,k,x⟩:=iw (s:=s) ⟨λ_ _=>rfl,λ_=>.inl rfl⟩ h p e;rw[kJ]at d;exact⟨_,i,lX m,C3 (Kp.none _ _) d.1 x.one,j,k.cJ,k.uU⟩
theorem A9(h:bA E ro own s w a){fn:Func}{e es n:Nat}{f:Nat->List SV}{O:List SV}{X}(c:(H8 P fn e es n f O).ok s X):
 ∃v0 F r,(results fn a.tmps).run P w=.ok (QZ (v0::F)) w/\F.length=O.length/\BI r E.B w e es n f v0/\aQ r Own.empty O F/\ga ro r/\(∀b o v,r b o=some v->eb w b o v)/\∀b o,b<E.B->r b o=E.R b o:=by
 obtain⟨xs,F,h1,G,c⟩:=ra h c
 match xs,F,G,c with
 |x::rest,v::vr,G,c=>
  have cont:∀{k:List SV->List (Loc×Item)->Tx},(cn rest k).ok s X->∃i z j,(k i z).ok s X/\ga ro j/\bA E j own (s.apply z) w a/\aQ j Own.empty i vr:=λc=>iw (s:=s) ⟨λ_ _=>rfl,λ_=>.inl rfl⟩ h G.2 c
  dsimp only at c;split at c
  . obtain⟨i,z,j,d,A,C,Z⟩:=cont c;split at d
    case h_2=>exact d.elim
    obtain⟨⟨hn,D⟩,d⟩:=d;have u:=kR (own':=Own.empty) D Z;refine⟨v,vr,j,lX h1,by rw[u.length],.inl ⟨gh G.1,hn⟩,u,A,C.cJ,C.uU⟩
  . rename_i id aD off len;obtain⟨m,hm,c⟩:=fG c;split at c
    case isFalse=>exact c.elim
    rename_i hc;obtain⟨c1,c2,c3,c4,c5,c6⟩:=hc;obtain⟨y,hy,c⟩:=lf c;split at c
    case h_2=>exact c.elim
    rename_i n' p g;split at c
    case isFalse=>exact c.elim
    rename_i ac;subst ac;obtain⟨i,z,j,d,A,C,Z⟩:=cont c;split at d
    case h_2=>exact d.elim
    obtain⟨⟨⟨H,J,ad⟩,K,D⟩,d⟩:=d;have C:bA E j own s w a:=C;have u:=kR (own':=Own.empty) D Z;have hx:=G.1.mono A (.refl _);subst H;subst J;subst c2;refine⟨v,vr,j,lX h1,by rw[u.length],?_,u,A,C.cJ,C.uU⟩;rcases fH hx with⟨b,hb,bb,hv⟩|⟨hb,al,bd,hv⟩
    . have D:=(C.gK id m hm).live b hb c4;obtain⟨cs,e0,lo,hi,r0,r1,r2,r3,r4,r5,r6⟩:=D.body;obtain⟨q1,q2,q3,q4⟩:=r2 e c5;subst q1;subst q2;subst q3;have L:s.az id m.ns=[.a n' p g]:=by
       rw[c6];simp[St.az,hy]
      have M:own.es id 0=p:=by
       rw[(C.gK id m hm).es 0 (.a n' p g) (by rw[L];rfl)];rfl
      refine .inr ⟨b,own.cap id m.aD,cs,⟨by simpa using hv,D.low,D.apart,r0,q4,by rw[r6 c1,M],by omega,λk sv c=>?_⟩⟩;have q:k<len*p:=by have:=cK c;simpa[aa,ar.size]using this
      rw[cy q]at c;have aq:0<p:=by
       rcases Jw p with h0|h0
       . subst h0;simp at q
       . exact h0
      have hi:k/p<len:=by rw[K9 aq];exact q
      obtain⟨o1,o2⟩:=K _ hi;obtain⟨o3,o4⟩:=CP o2;obtain⟨x,N,aw⟩:=o4 _ sv c;have d:k<n'*p:=Qf q (Jl _ ad);have ax:flat (s.az id m.ns) k=some x:=by rw[L,cy d];exact N
      have ay:fM x=true:=by
       simp only[yr,J2,Js]at o1;exact o1.2 x (Y1 N)
      exact uN (Kp.none _ _) aw (iq (o':=Own.empty) (r4 k x ax) ay)
    . subst al;exact .inl ⟨hv,rfl⟩
  . exact c.elim
end
def FL(N:Nat)(b:Array Oper):Bool:=b.toList.all λo=>(match o.dst with|some d=>Nat.blt d N|none=>true)&&(match o.guard with
 |some (j,_)=>(match ir b j with|some t=>Nat.blt t N|none=>true)
 |none=>true)
def IV(c:Operand)(s:bg)(d e:bg->Prop):Prop:=match c with
 |.tmp t=>(match s.get (.tm t)with
  |.v .tt=>d s
  |.v .ff=>e s
  |.v (.bool b)=>(b=true->s.MJ (.tm t) (.v .tt) d)/\(b=false->s.MJ (.tm t) (.v .ff) e)
  |_=>False)
 |.const (.bool true)=>d s
 |.const (.bool false)=>e s
 |_=>False
structure ru (b : Bool) : Prop where
 h : b = true
def Lu(b:Bool)(c:Array Oper)(d:List Tr):Prop:=match b with
 |true=>ru (Ej c d)
 |false=>True
def exec(X:Ctx):Code->bg->(bg->Prop)->(Nat->bg->Prop)->(bg->Prop)->Prop
 |.skip,s,d,_,_=>d s
 |.label _,s,d,_,_=>d s
 |.seq a b,s,d,e,h=>exec X a s (λs=>exec X b s d e h) e h
 |.cond c a b,s,d,e,h=>IV c s (λs=>exec X a s d e h) (λs=>exec X b s d e h)
 |.block id c,s,d,e,h=>exec X c s d (λi s=>match Nat.beq i id with|true=>d s|false=>e i s) h
 |.exit id,s,_,e,_=>e id s
 |.ret,s,_,_,h=>h s
 |.region _ ops draw,s,d,_,_=>match FL X.N ops with
  |true=>mJ X ops ops.toList 0 s [] λs k=>Lu draw ops k/\d s
  |false=>False
 |.loop c,s,_,e,h=>∃(T:Type)(S:T->bg)(I:T->Prop)(μ:T->Nat),(∃x,I x/\Ma s (S x))/\∀x,I x->exec X c (S x) (λm=>∃j,I j/\μ j<μ x/\Ma m (S j)) e h
 |_,_,_,_,_=>False
theorem EN{E:Env}{P:Program}{c:Operand}{s:bg}{u z:bg->Prop}(h:IV c s u z){x y:Code}{Q:Exit->Act->World->Prop}{w:World}{a:Act}(j:dL E s.get w a)
 (p:∀d:bg,u d->dL E d.get w a->x.wp P Q a w) (q:∀d:bg,z d->dL E d.get w a->y.wp P Q a w):(Code.cond c x y).wp P Q a w:=by
 unfold IV at h;split at h
 . rename_i t;split at h
   . rename_i k;obtain⟨ro,own,i⟩:=j;exact wp_cond_true (nX (i.tm t _ k)) (p s h ⟨ro,own,i⟩)
   . rename_i k;obtain⟨ro,own,i⟩:=j;exact wp_cond_false (qD (i.tm t _ k)) (q s h ⟨ro,own,i⟩)
   . rename_i b k;have m:St.put s.get (.tm t) (.v (.bool b))=s.get:=by
      funext l
      by_cases e:l=.tm t
      . subst e;rw[St.cQ,k]
      . rw[St.bh _ _ e]
     have o:dL E (St.put s.get (.tm t) (.v (.bool b))) w a:=by rw[m];exact j
     obtain⟨ro,own,i⟩:=j;refine wp_cond_split (jJ (i.tm t _ k)) (λe=>?_) (λe=>?_)
     . obtain⟨d,A,this⟩:=bg.uT (h.1 e);exact p d this (by rw[bg.tP A];exact dL.Rs o λ_ _ _ r=>T8 e r)
     . obtain⟨B,C,this⟩:=bg.uT (h.2 e);exact q B this (by rw[bg.tP C];exact dL.Rs o λ_ _ _ r=>S3 e r)
   . exact h.elim
 . exact wp_cond_true rfl (p s h j)
 . exact wp_cond_false rfl (q s h j)
 . exact h.elim
def sd:Code->Bool
 |.seq a b=>sd a&&sd b
 |.cond _ a b=>sd a&&sd b
 |.block _ c=>sd c
 |.loop _=>false
 |_=>true
theorem Bt{p:Prop}{a b:Bool}(h:(a&&b)=true\/p):(a=true\/p)/\(b=true\/p):=by
 rcases h with h|h
 . rw[J2]at h;exact⟨.inl h.1,.inl h.2⟩
 . exact⟨.inr h,.inr h⟩
theorem Hl{E:Env}{X:Ctx}(hN:E.N=X.N)(hC:∀f c,X.C f=some c->nh X.P f c)(hm:X.P.follows .mixedOrders=true):∀(c:Code)(k:sd c=true\/∀o r,E.K o r)(s:bg)(A:bg->Prop)(B:Nat->bg->Prop)(D:bg->Prop),exec X c s A B D->
 ∀Q:Exit->Act->World->Prop,(∀s:bg,A s->∀a w,dL E s.get w a->Q .normal a w)->(∀(i:Nat)(s:bg),B i s->∀a w,dL E s.get w a->Q (.exit i) a w)->(∀s:bg,D s->∀a w,dL E s.get w a->Q .ret a w)->
 ∀a w,dL E s.get w a->c.wp X.P Q a w:=by
 intro c
 induction c with
 |skip=>intro k s A B D h Q q p u a w e;exact wp_skip (q s h a w e)
 |label l=>intro k s A B D h Q q p u a w e;exact wp_label (q s h a w e)
 |seq x y H J=>
  intro k s A B D h Q q p u a w e;obtain⟨L,M⟩:=Bt k;exact wp_seq (H L s _ _ _ h (Exit.then (y.wp X.P Q) Q) (λF z a w e=>J M F _ _ _ z Q q p u a w e) p u a w e)
 |cond c x y H J=>
  intro k s A B D h Q q p u a w e;obtain⟨L,M⟩:=Bt k;exact EN h e (λF z O=>H L F _ _ _ z Q q p u a w O) (λF z O=>J M F _ _ _ z Q q p u a w O)
 |block id x ih=>
  intro k s A B D h Q q p u a w e;refine wp_block (ih k s _ _ _ h (Exit.inBlock id Q) q (λi F z a w e=>?_) u a w e);simp only[Exit.inBlock];split at z
  . rename_i he;rw[JB (Jd he)];exact q F z a w e
  . rename_i he;rw[JA (Nat.ne_of_beq_eq_false he)];exact p i F z a w e
 |exit id=>intro k s A B D h Q q p u a w e;exact wp_exit (p id s h a w e)
 |ret=>intro k s A B D h Q q p u a w e;exact wp_ret (u s h a w e)
 |loop c ih=>
  intro k s A B D h Q q p u a w e;have k:∀o r,E.K o r:=k.resolve_left (by simp[sd]);obtain⟨T,S,I,μ,⟨x0,ad,ac⟩,G⟩:=h;refine wp_loop_ghost (λn a w=>∃x,I x/\μ x=n/\dL E (S x).get w a) (μ x0) ⟨x0,ad,rfl,DB k ac e⟩ ?_;rintro n a w ⟨x,hI,rfl,e⟩;refine ih (.inr k) (S x) _ _ _ (G x hI) (Exit.then _ Q) (λF z a w e=>?_) p u a w e;obtain⟨x',al,aq,aw⟩:=z;exact⟨μ x',aq,x',al,rfl,DB k aw e⟩
 |region id ops draw=>
  intro k s A B D h Q q p u a w e;unfold exec at h;split at h
  case h_2=>exact h.elim
  rename_i R;simp only[FL,Js,J2]at R;obtain⟨Z,F,z,h2,h3,h4⟩:=tR hN hC h (λj _=>by simp) (λo ho t=>by
   have:=(R o ho).2;split
   . rename_i j b hg;intro ht;simp only[hg,ht]at this;rw[hN];simpa[Z1]using this
   . trivial) (λo ho d hd=>by
   have:=(R o ho).1;rw[hd]at this;rw[hN];simpa[Z1]using this)
  simp only[Jg]at h4;have fin:A F->∀a w,dL E (St.apply s.get (Z.flatMap (·.ws))) w a->Q .normal a w:=λhk a w e=>q F hk a w (by rw[h2];exact e)
  obtain⟨hd,h3⟩:=h3;cases draw with
  |false=>
   refine wp_region ?_;have:=vC (P:=X.P) (Q:=Q) (ops:=ops) Z 0 s.get (λm x p=>by simpa using h4 m x p) (fin h3) a w e;rw[z,Array.length_toList,<-List.range_eq_range']at this;exact this
  |true=>
   have hd:=hd.h;simp only[Jj]at hd;refine wp_region_any hm (BH (st:=Z) (s:=s.get) (by rw[z];simp) h4 hd (fin h3) _ _ (by simp) (by simp[mq]) (λj o ho hj=>?_) a _ ?_)
   . simp[Xs]at hj;split at hj<;>cases hj
   . have:wG Z 0 (λm=>(Array.replicate ops.size false).getD m false) s.get=s.get:=by
      rw[<-lN Z 0 s.get]
      congr 1
      . funext m;simp[Xs];split<;>rfl
      . exact lN Z 0 s.get
     rw[this];obtain⟨ro,own,hg⟩:=e;exact⟨ro,own,hg.world rfl rfl rfl rfl⟩
 |_=>intro k s A B D h;exact h.elim
theorem AW{j:RO}{c b:Own}{k:KF}{m:NF}(K:Kp c b k m):∀{d e:List SV}{i:List Value},uP k m d e->aQ j c d i->aQ j b e i
 |[],[],[],_,_=>trivial
 |x::d,y::e,v::i,h,hr=>⟨nC K h.1 hr.1,AW K h.2 hr.2⟩
 |[],_::_,_,h,_=>h.elim
 |_::_,[],_,h,_=>h.elim
def mh(N:Nat)(args:List SV):bg:=⟨args++List.replicate (N-args.length) (.df []),[]⟩
def Gx(P:Program)(fn:Func)(r:SV)(s:bg):Prop:=(MH P fn r).run s [] λ_ _=>True
def RH(P:Program)(N:Nat)(b:Code)(s:bg)(c:bg->Prop)(d:Nat->bg->Prop)(e:bg->Prop):Prop:=∀E:Env,E.N=N->(∀o r,E.K o r)->∀Q:Exit->Act->World->Prop,(∀s:bg,c s->∀a w,dL E s.get w a->Q .normal a w)->(∀(i:Nat)(s:bg),d i s->∀a w,dL E s.get w a->Q (.exit i) a w)->(∀s:bg,e s->∀a w,dL E s.get w a->Q .ret a w)->
 ∀a w,dL E s.get w a->b.wp P Q a w
theorem Rk{P:Program}{f:Nat}{fn:Func}{p:Code}(hf:P.funcs[f]?=some fn)(hb:fn.body=some p)
 {args:List SV} {r:SV} (ad:args.length<=fn.ntmps) (N:RH P fn.ntmps p (mh fn.ntmps args) (Gx P fn r) (λ_ _=>False) (Gx P fn r)) (R:RO) (w:World) (c:Array Value) (hR:∀b o v,R b o=some v->eb w b o v) (q:aQ R Own.empty args c.toList):
 Calls P f c w λe i=>∃v k,e=.returned v/\uc k w.heap.size i r v/\ga R k/\(∀b o v,k b o=some v->eb i b o v)/\(∀b o,b<w.heap.size->k b o=R b o)/\Below w.heap.size w i:=by
 have al:c.size=args.length:=by have:=q.length;simp at this;omega
 let E:Env:=⟨w.heap.size,w,R,fn.ntmps,λ_ _=>True,λ_ _ _ _ _ _ _=>trivial⟩
 let x:Act:={tmps:=c++Array.replicate (fn.ntmps-c.size) undef,defers:=[]}
 have O:dL E (mh fn.ntmps args).get w x:=by
  refine⟨R,Own.empty,{below:=Below.refl _ _,base:=J1 _,defs:=rfl,size:=?_,tm:=?_,cJ:=hR,uU:=λ_ _ _=>rfl,gK:=?_,fr:=λ_ _ _=>rfl,mY:=λ_ _ _ _ _=>rfl,inj:=?_,kk:=trivial,mp:=⟨λid m _ _ _ y=>by simp[bg.get,mh]at y,λid X m m' b _ _ _ _ _ _ y=>by simp[bg.get,mh]at y⟩}⟩
  . simp[x,E];omega
  . intro t sv j;simp only[bg.get,mh,Item.v.injEq]at j
    by_cases A:t<args.length
    . have Z:(args++List.replicate (fn.ntmps-args.length) (SV.df []))[t]?=args[t]?:=Ka A;rw[J0,Z,J4 A]at j;simp at j;subst j;obtain⟨v,hv,hr⟩:=q.at t _ (J4 A);have C:t<c.size:=by omega
      have:x.tmps.getD t undef=v:=by
       simp only[Xp]at hv;simp[x,Y3,C];simpa[Xr C]using hv
      rw[this];exact hr
    . by_cases C:t<fn.ntmps
      . have Z:(args++List.replicate (fn.ntmps-args.length) (SV.df []))[t]?=some (.df []):=by
         rw[Jy (by omega),Xh,JB (by omega)]
        rw[J0,Z]at j;simp at j;subst j;have:x.tmps.getD t undef=undef:=by
         have h3: ¬t<c.size:=by omega
         have h4:t-c.size<fn.ntmps-c.size:=by omega
         simp[x,Y3,h3,h4]
        rw[this];exact .df _ _ _ rfl (by simp)
      . rw[J0,J7 (by simp;omega)]at j;simp at j;subst j;exact .any _ _
  . intro id m y;simp[bg.get,mh]at y
  . intro id X m m' b y;simp[bg.get,mh]at y
 have done:∀s:bg,Gx P fn r s->∀a i,dL E s.get i a->a.defers=[]/\∃v,(results fn a.tmps).run P i=.ok v i/\∃v' k,Ending.returned v=.returned v'/\uc k w.heap.size i r v'/\ga R k/\(∀b o v,k b o=some v->eb i b o v)/\(∀b o,b<w.heap.size->k b o=R b o)/\Below w.heap.size w i:=by
  intro s he a i D;obtain⟨ro,own,F⟩:=D;obtain⟨ws,_,z,_⟩:=Tx.uZ he;have G:∃v d,(results fn a.tmps).run P i=.ok v i/\uc d E.B i r v/\ga ro d/\(∀b o v,d b o=some v->eb i b o v)/\∀b o,b<E.B->d b o=E.R b o:=by
   unfold MH at z;split at z
   . obtain⟨v0,H,d,J,K,L,M,g5⟩:=A9 F z
     match H,K with
     |[],_=>exact⟨v0,d,J,L,g5⟩
   . split at z
     . exact z.elim
     . obtain⟨v0,H,d,J,K,L,M,g5⟩:=A9 F z
       match H,K,M with
       |u::H,_,M=>exact⟨_,d,J,⟨v0,u::H,rfl,L,M⟩,g5⟩
   . obtain⟨v,d,J,K,L⟩:=LC F z;exact⟨v,d,J,.of K,L⟩
  obtain⟨v,d,A,C,h3,h4,h5⟩:=G;refine⟨F.defs,v,A,v,d,rfl,C,λb o u hu=>?_,h4,h5,F.below⟩;have ac:b<w.heap.size:=by
   have:=(hR b o u hu).1;unfold World.cell? at this;rcases Kv b w.heap.size with h|h
   . exact h
   . simp[Y2 h]at this
  rw[h5 b o ac];exact hu
 refine calls_of_wp hf hb ?_;refine N E rfl (λ_ _=>trivial) _ (λs h a w D=>?_) (λ_ _ h=>h.elim) (λs h a w D=>?_) x w O
 . exact done s h a w D
 . exact done s h a w D
end Go.Sx
namespace Go.Sx
open Go Go.RowKit
variable [bW]
def ow{α:Type}(b:List SV->Option (Prop×α))(c:α->Prop)(d:α->SV):bB:=λargs=>qn args λargs=>match b args with
 |some (p,a)=>some (p/\c a,d a)
 |none=>none
def SX{α:Type}(n:Nat)(b:List SV->Option (Prop×α))(c:α->List SV):Prop:=∀l p a,b l=some (p,a)->p->uP pk eL l (c a)/\l.length=n
section
variable {β : Type}
def aR(c:Nat)(l:List SV)(k:Nat->(Nat->List SV)->List SV->Option β):Option β:=match l with
 |.bF b n f::r=>(match Nat.beq b c with
  |true=>k n f r
  |false=>none)
 |.aq::r=>k 0 (λ_=>[]) r
 |_=>none
def gI(l:List ar)(k:Int->List ar->Option β):Option β:=match l with
 |.s (.int .i64 n)::r=>k n r
 |_=>none
def gB(l:List ar)(k:Bool->List ar->Option β):Option β:=match l with
 |.s (.bool b)::r=>k b r
 |.s .tt::r=>k true r
 |.s .ff::r=>k false r
 |_=>none
def gE(l:List ar)(x:Option β):Option β:=match l with
 |[]=>x
 |_=>none
variable {b : β}
end
def WQ:List (Nat×bB)->Nat->Option bB
 |[],_=>none
 |(f,c)::r,g=>match Nat.beq g f with
  |true=>some c
  |false=>WQ r g
def aH(P:Program):List (Nat×bB)->Prop
 |[]=>True
 |(f,c)::r=>nh P f c/\aH P r
theorem HP{P:Program}:∀{l:List (Nat×bB)},aH P l->∀f c,WQ l f=some c->nh P f c
 |[],_,f,c,h=>by cases h
 |(g,d)::r,h,f,c,b=>by
  simp only[WQ]at b;split at b
  . rename_i e;have:=Jd e;subst this;cases b;exact h.1
  . exact HP h.2 f c b
def mB(fn:Func):Code:=fn.body.getD .skip
end Go.Sx
namespace Go.Sx
open Go Go.RowKit
variable [bW]
section
variable {E : Env} {ro : RO} {own : Own} {s : St} {w : World} {a : Act}
theorem bA.sayT(h:bA E ro own s w a){t:Nat}{y:SV}(z:Rel ro own y (a.tmps.getD t undef)):bA E ro own (s.put (.tm t) (.v y)) w a:=by
 have c:∀l,(∀o,l≠ .tm o)->(s.put (.tm t) (.v y)) l=s l:=λl A=>by rw[St.bh _ _ (A t)]
 have p:∀i n,(s.put (.tm t) (.v y)).az i n=s.az i n:=λi n=>St.dc λq _=>c _ (by simp)
 refine {below:=h.below,base:=h.base,defs:=h.defs,size:=h.size,tm:=?_,cJ:=h.cJ,uU:=h.uU,gK:=?_,fr:=?_,mY:=?_,inj:=?_,kk:=h.kk,mp:=h.mp' (.refl _) (.refl _) (λid m u D=>⟨by rw[c _ (by simp)]at u;exact u,λn e f x=>by rw[c _ (by simp)]at x;exact x⟩) (λ_ _ _ _ h=>h)}
 . intro o B j
   by_cases e:o=t
   . subst e;rw[St.cQ]at j;simp at j;subst j;exact z
   . rw[St.bh _ _ (by simpa using e)]at j;exact h.tm o B j
 . intro id m d;rw[c _ (by simp)]at d;rw[p];exact h.gK id m d
 . intro id d;rw[c _ (by simp)]at d;exact h.fr id d
 . intro id m d;rw[c _ (by simp)]at d;exact h.mY id m d
 . intro id r m C b d k;rw[c _ (by simp)]at d k;exact h.inj id r m C b d k
end
def frzTx(t:Nat):Tx:=rdT t λx=>cn [x] λ
 |[y],ws=>.done (ws++[(.tm t,.v y)])
 |_,_=>.fail
def QI:List Nat->bg->(bg->Prop)->Prop
 |[],s,k=>k s
 |t::r,s,k=>(frzTx t).run s [] λ_ b=>ux s b λs=>s.force λs=>QI r s k
theorem Cf{E:Env}{w:World}{a:Act}:∀{u:List Nat}{s:bg}{k:bg->Prop},QI u s k->dL E s.get w a->∃o:bg,dL E o.get w a/\k o
 |[],s,k,h,hs=>⟨s,hs,h⟩
 |t::r,s,k,h,hs=>by
  obtain⟨z,R,A,B,_⟩:=Tx.uZ h;obtain⟨H,C,p⟩:=Sk B;rw[bg.force_eq]at p;refine Cf p ?_;obtain⟨ro,own,q⟩:=hs;obtain⟨x,D,F⟩:=Cq q A;obtain⟨c,d,i,b,G,j,m⟩:=iw (s:=s.get) (vals:=[a.tmps.getD t undef]) ⟨λ_ _=>rfl,λ_=>.inl rfl⟩ q (xs:=[x]) ⟨D,trivial⟩ F
  match c,m,b with
  |[y],m,b=>
   have e:z=d++[(.tm t,.v y)]:=b.symm;rw[C,e,aM,kA];exact⟨i,own,j.sayT (m.1.own (Own.empty_le _))⟩
def dI(a b n:Nat):Nat:=match Nat.beq n a with
 |true=>b
 |false=>match Nat.beq n b with
  |true=>a
  |false=>n
theorem kH(a b n:Nat):dI a b (dI a b n)=n:=by
 unfold dI;cases c:Nat.beq n a<;>cases d:Nat.beq n b
 . simp[c,d]
 . have:=Jd d;subst this;simp
 . have:=Jd c;subst this;cases e:Nat.beq b n
   . simp
   . simp[Jd e]
 . have:=Jd c;subst this;have:=Jd d;subst this;simp
def rW(R:SV->SV):ar->ar
 |.s v=>.s (R v)
 |.a n es f=>.a n es λi=>(f i).map R
def rE(a b:Nat):Nat->SV->SV
 |0,_=>.any
 |d+1,x=>match x with
  |.ptr id q=>.ptr (dI a b id) q
  |.su id v q i j=>.su (dI a b id) v q i j
  |.sl id v o n=>.sl (dI a b id) v o n
  |.z9 id=>.z9 (dI a b id)
  |.agg l=>.agg (l.map (rW (rE a b d)))
  |.df l=>.df (l.map (rE a b d))
  |.fn f p q=>.fn f (p.map (rE a b d)) (q.map (rE a b d))
  |x=>x
def Own.xq(a b:Nat)(o:Own):Own:=⟨λid v=>o.env (dI a b id) v,λid v=>o.cap (dI a b id) v,λid q=>o.st (dI a b id) q,λid q=>o.es (dI a b id) q⟩
theorem R5(R:SV->SV)(x:ar)(k:Nat):(rW R x).at k=(x.at k).map R:=by
 cases x with
 |s v=>cases k<;>simp[rW,ar.at]
 |a n es f=>
  simp only[rW,ar.at];split
  . simp
  . rfl
theorem BF(R:SV->SV)(x:ar):(rW R x).size=x.size:=by cases x<;>rfl
theorem RB(R:SV->SV)(x:ar):(rW R x).es=x.es:=by cases x<;>rfl
theorem GJ(R:SV->SV)(x:ar):(rW R x).shape=x.shape:=by cases x<;>rfl
theorem yF(R:SV->SV)(l:List ar)(k:Nat):flat (l.map (rW R)) k=(flat l k).map R:=by
 induction l generalizing k with
 |nil=>rfl
 |cons x r b=>
  simp only[J8,flat,BF,R5,b];split<;>rfl
theorem gv(R:SV->SV)(l:List ar):aa (l.map (rW R))=aa l:=by
 induction l with
 |nil=>rfl
 |cons x r b=>simp only[J8,aa,BF,b]
theorem wU{ro:RO}{own:Own}(p q:Nat):∀(d:Nat){x:SV}{v:Value},Rel ro own x v->Rel ro (own.xq p q) (rE p q d x) v
 |0,x,v,h=>.any _ _
 |d+1,x,v,h=>by
  have B:=λ{x:SV}{v:Value}(h:Rel ro own x v)=>wU (ro:=ro) (own:=own) p q d h
  have w:∀id o,(own.xq p q).env (dI p q id) o=own.env id o:=λid o=>by simp[Own.xq,kH]
  have K:∀id o,(own.xq p q).cap (dI p q id) o=own.cap id o:=λid o=>by simp[Own.xq,kH]
  have L:∀id j,(own.xq p q).st (dI p q id) j=own.st id j:=λid j=>by simp[Own.xq,kH]
  have M:∀id j,(own.xq p q).es (dI p q id) j=own.es id j:=λid j=>by simp[Own.xq,kH]
  cases h with
  |any=>exact .any _ _
  |bool=>exact .bool _ _
  |tt=>exact .tt _
  |ff=>exact .ff _
  |int=>exact .int _ _ _
  |str=>exact .str _ _
  |aq=>exact .aq _
  |agg _ l cs D r=>
   refine .agg _ _ _ (by rw[gv];exact D) λk E N=>?_
   rw[yF]at N;obtain⟨u,hu,rfl⟩:=Jp.1 N;exact B (r k u hu)
  |df _ l C D r=>
   refine .df _ _ _ (by simpa using D) λi E c=>?_
   simp only[J5,Jp]at c;obtain⟨u,hu,rfl⟩:=c;exact B (r i u hu)
  |ptr _ id j b m=>rw[<-L];exact .ptr _ _ _ _ (by rw[w];exact m)
  |su _ id o j i k b m=>rw[<-L,<-M];exact .su _ _ _ _ _ _ _ (by rw[w];exact m)
  |sl _ id o off len b m F=>rw[<-K,<-M];exact .sl _ _ _ _ _ _ (by rw[w];exact m) (by rw[K];exact F)
  |Es _ id o off len m z O=>exact .Es _ _ _ _ _ (by rw[w];exact m) z O
  |fe _ es len f A cap R=>exact .fe _ _ _ _ _ _ R
  |bF _ es len f b X cap C F z G r=>exact .bF _ _ _ _ _ _ _ C F z G r
  |rA _ es len f i j b X C z G r c=>exact .rA _ _ _ _ _ _ _ _ C z G r c
  |fn _ f x y va vb Z m H J=>
   refine .fn _ _ _ _ _ _ (by simpa using Z) (by simpa using m) (λi E c=>?_) (λi E c=>?_)
   . simp only[J5,Jp]at c;obtain⟨u,hu,rfl⟩:=c;exact B (H i u hu)
   . simp only[J5,Jp]at c;obtain⟨u,hu,rfl⟩:=c;exact B (J i u hu)
  |DG _ v h=>exact .DG _ _ h
  |emp _ A=>exact .emp _ _
  |z9 _ id b m=>exact .z9 _ _ _ (by rw[w];exact m)
  |km=>exact .km _
  |Gu=>exact .Gu _
  |pn=>exact .pn _
  |sy _ k e lo c n H J h3=>exact .sy _ _ _ _ _ _ H J h3
  |tg _ i v h=>exact .tg _ _ _ h
def iK:Nat:=5
def renE(p q:Nat)(b:List (lZ×List ar)):Nat->lZ×List ar:=λi=>match b[dI p q i]? with
 |some (m,l)=>(m,l.map (rW (rE p q iK)))
 |none=>(⟨0,true,false,none,0,0,[]⟩,[])
def bg.xq(p q:Nat)(s:bg):bg:=⟨s.tm.map (rE p q iK),(List.range s.en.length).map (renE p q s.en)⟩
def Gv:List (lZ×List ar)->Bool
 |[]=>true
 |(m,_)::r=> !cz m&&Gv r
def renW:List (Nat×Nat)->bg->(bg->Prop)->Prop
 |[],s,k=>k s
 |(p,q)::r,s,k=>match Nat.blt p s.en.length&&Nat.blt q s.en.length&&Gv s.en with
  |true=>(s.xq p q).force λs=>renW r s k
  |false=>False
theorem EP:∀{l:List (lZ×List ar)},Gv l=true->∀(i:Nat)(m:lZ)(g:List ar),l[i]?=some (m,g)->cz m=false
 |[],_,i,m,g,h=>by simp at h
 |(b,c)::r,hn,i,m,g,h=>by
  simp only[Gv,J2,Yx]at hn;cases i with
  |zero=>simp at h;rw[<-h.1];exact hn.1
  |succ i=>simp at h;exact EP hn.2 i m g h
theorem Gf{p q n L:Nat}(d:p<L)(e:q<L):dI p q n<L↔n<L:=by
 unfold dI;cases b:Nat.beq n p<;>cases c:Nat.beq n q<;>simp
 . have:=Jd c;subst this;omega
 . have:=Jd b;subst this;omega
 . have:=Jd b;subst this;omega
theorem ren_sim{E:Env}(hK:∀o r,E.K o r){s:bg}{w:World}{a:Act}{p q:Nat}(hp:p<s.en.length)(hq:q<s.en.length)(ad:Gv s.en=true)(hs:dL E s.get w a):dL E (s.xq p q).get w a:=by
 obtain⟨ro,own,A⟩:=hs;have G:∀id,(s.xq p q).en[id]?=(s.en[dI p q id]?).map λe=>(e.1,e.2.map (rW (rE p q iK))):=by
  intro id;simp only[bg.xq,J5]
  by_cases h:id<s.en.length
  . rw[Q9 h];have z:=(Gf (n:=id) hp hq).2 h;simp only[K4,renE,J4 z]
  . have z: ¬dI p q id<s.en.length:=λh3=>h ((Gf hp hq).1 h3)
    rw[J7 (by simpa using h),J7 (by omega)];rfl
 have d:∀id,(s.xq p q).get (.mt id)=s.get (.mt (dI p q id)):=by
  intro id;simp only[bg.get,G,Option.map_map];rfl
 have al:∀id j m l,s.en[dI p q id]?=some (m,l)->j<l.length->St.uC (s.xq p q).get id j=rW (rE p q iK) (St.uC s.get (dI p q id) j):=by
  intro id j m l h J;simp only[St.uC,bg.get,G,h,K4,Xg,J5,J4 J,K5]
 have aq:∀id m,s.get (.mt (dI p q id))=.m (some m)->∃l,s.en[dI p q id]?=some (m,l)/\((s.xq p q).get) (.mt id)=.m (some m):=by
  intro id m c;obtain⟨l,B⟩:=sa c;exact⟨l,B,by rw[d,c]⟩
 have M:∀id m,s.get (.mt id)=.m (some m)->cz m=false:=by
  intro id m c;obtain⟨l,B⟩:=sa c;exact EP ad id m l B
 have aw:∀id m,s.get (.mt (dI p q id))=.m (some m)->St.az (s.xq p q).get id m.ns=(St.az s.get (dI p q id) m.ns).map (rW (rE p q iK)):=by
  intro id m c;obtain⟨l,B⟩:=sa c;apply Xc;intro j
  by_cases J:j<m.ns
  . rw[St.bL _ _ _ _ J,J5,St.bL _ _ _ _ J]
    by_cases H:j<l.length
    . rw[al id j m l B H];rfl
    . have N:(s.xq p q).en[id]?=some (m,l.map (rW (rE p q iK))):=by rw[G,B];rfl
      have g1:St.uC (s.xq p q).get id j=.s .any:=by
       simp only[St.uC,bg.get,N,Xg];rw[J7 (by simpa using H)];rfl
      have g2:St.uC s.get (dI p q id) j=.s .any:=by
       simp only[St.uC,bg.get,B,Xg];rw[J7 (by simpa using H)];rfl
      rw[g1,g2];rfl
  . rw[J7 (by rw[St.dX];omega),J7 (by rw[Qj,St.dX];omega)]
 refine⟨ro,own.xq p q,{below:=A.below,base:=A.base,defs:=A.defs,size:=A.size,tm:=?_,cJ:=A.cJ,uU:=A.uU,gK:=?_,fr:=?_,mY:=?_,inj:=?_,kk:=hK _ _,mp:=⟨λid m n e f C z _=>?_,λid ax m m' b _ _ _ _ _ _ C z h3 _ _ _ _ _=>?_⟩}⟩
 . intro t sv F;simp only[bg.get,bg.xq,Item.v.injEq]at F;rw[J0,J5]at F;cases O:s.tm[t]? with
   |none=>rw[O]at F;simp at F;subst F;exact .any _ _
   |some y=>
    rw[O]at F;simp at F;subst F;exact wU p q iK (A.tm t y (by simp[bg.get,O]))
 . intro id m c;rw[d]at c;have D:=A.gK _ m c;rw[aw id m c];have tk:∀j,aa (((St.az s.get (dI p q id) m.ns).map (rW (rE p q iK))).take j)=aa ((St.az s.get (dI p q id) m.ns).take j):=λj=>by rw[<-List.map_take,gv]
   refine {st:=λj J=>by rw[tk];exact D.st j J,es:=λj x hx=>?_,row:=λL=>?_,plain:=λL=>⟨(D.plain L).1,?_⟩,there:=D.there,nil:=λhn=>?_,live:=λb R X=>?_,dn:=λb R X k Z=>?_}
   . rw[J5]at hx;obtain⟨y,O,rfl⟩:=Jp.1 hx;rw[RB];exact D.es j y O
   . obtain⟨n,f,C,z⟩:=D.row L;exact⟨n,λi=>(f i).map (rE p q iK),by rw[C];rfl,z⟩
   . rw[(D.plain L).2,List.map_map];refine Xl λx _=>?_
     simp[GJ]
   . obtain⟨C,f,z⟩:=D.nil hn;exact⟨C,λi=>(f i).map (rE p q iK),by rw[z];rfl⟩
   . have B:=D.live b R X;obtain⟨cs,e,lo,hi,r0,r1,r2,r3,r4,r5,r6⟩:=B.body;exact⟨B.low,B.apart,cs,e,lo,hi,r0,by rw[gv];exact r1,r2,by rw[gv];exact r3,λk sv Z=>by
      rw[yF]at Z;obtain⟨u,hu,rfl⟩:=Jp.1 Z;exact wU p q iK (r4 k u hu),λL=>by rw[gv];exact r5 L,r6⟩
   . rw[gv]at Z;obtain⟨v,C,z⟩:=D.dn b R X k Z;refine⟨v,C,λsv hs=>?_⟩;rw[yF]at hs;obtain⟨u,hu,rfl⟩:=Jp.1 hs;have:=wU p q iK (z u hu);have e:Own.empty.xq p q=Own.empty:=rfl
     rwa[e]at this
 . intro id c aD;rw[d]at c;exact A.fr _ c aD
 . intro id m c aD hv;rw[d]at c;exact A.mY _ m c aD hv
 . intro id ax m m' b c ac X ay R bb;rw[d]at c ac;have:=A.inj _ _ m m' b c ac X ay R bb;rw[<-kH p q id,this,kH]
 . rw[d]at C;rw[M _ _ C]at z;cases z
 . rw[d]at C;rw[M _ _ C]at h3;cases h3
theorem renW_ok{E:Env}(c:∀o r,E.K o r){w:World}{a:Act}:∀{l:List (Nat×Nat)}{s:bg}{k:bg->Prop},renW l s k->dL E s.get w a->∃d:bg,dL E d.get w a/\k d
 |[],s,k,h,hs=>⟨s,hs,h⟩
 |(p,q)::r,s,k,h,hs=>by
  simp only[renW]at h;split at h
  case h_2=>exact h.elim
  rename_i b;simp only[J2,Z1]at b;rw[bg.force_eq]at h;exact renW_ok c h (ren_sim c b.1.1 b.1.2 b.2 hs)
end Go.Sx
namespace Go.Sx
open Go Go.RowKit
variable [bW]
structure Port where
 T : Type
 rd : bg -> (T -> Prop) -> Prop
 ws : bg -> T -> List (Loc × Item)
 all : (T -> Prop) -> Prop
 ok : ∀ s k, rd s k -> ∃ x, k x
 oT : ∀ k, all k -> ∀ x, k x
 fz : List Nat := []
 sw : List (Nat × Nat) := []
def Port.unit:Port:=⟨Unit,λ_ k=>k (),λ_ _=>[],λk=>k (),λ_ _ h=>⟨_,h⟩,λ_ h _=>h,[],[]⟩
def Port.fz1(t:Nat):Port:=⟨Unit,λ_ k=>k (),λ_ _=>[],λk=>k (),λ_ _ h=>⟨_,h⟩,λ_ h _=>h,[t],[]⟩
def Port.sw1(a b:Nat):Port:=⟨Unit,λ_ k=>k (),λ_ _=>[],λk=>k (),λ_ _ h=>⟨_,h⟩,λ_ h _=>h,[],[(a,b)]⟩
def Port.pair(p q:Port):Port where
 T:=p.T×q.T
 rd s k:=p.rd s λx=>q.rd s λy=>k (x,y)
 ws s x:=match x with|(x,y)=>p.ws s x++q.ws s y
 all k:=p.all λx=>q.all λy=>k (x,y)
 fz:=p.fz++q.fz
 sw:=p.sw++q.sw
 ok s k h:=by
  obtain⟨x,h⟩:=p.ok _ _ h;obtain⟨y,h⟩:=q.ok _ _ h;exact⟨(x,y),h⟩
 oT k h x:=by obtain⟨x,y⟩:=x;exact q.oT _ (p.oT _ h x) y
def Ao(s:bg)(l:Loc)(k:SV->Prop):Prop:=match s.get l with
 |.v x=>k x
 |.s (.s x)=>k x
 |_=>False
def P2(l:Loc)(x:SV):Item:=match l with
 |.sg _ _=>.s (.s x)
 |_=>.v x
theorem rj{s:bg}{l:Loc}{k:SV->Prop}(h:Ao s l k):∃x,k x:=by
 unfold Ao at h;split at h
 . exact⟨_,h⟩
 . exact⟨_,h⟩
 . exact h.elim
def Port.int(ik:IntKind)(l:Loc):Port where
 T:=Int
 rd s k:=Ao s l λ|.int _ n=>k n|_=>False
 ws _ n:=[(l,P2 l (.int ik n))]
 all k:=∀n,k n
 ok s k h:=by
  obtain⟨x,h⟩:=rj h;split at h
  . exact⟨_,h⟩
  . exact h.elim
 oT k h x:=h x
def Port.bool(l:Loc):Port where
 T:=Bool
 rd s k:=Ao s l λ|.bool n=>k n|.tt=>k true|.ff=>k false|_=>False
 ws _ n:=[(l,P2 l (.bool n))]
 all k:=∀n,k n
 ok s k h:=by
  obtain⟨x,h⟩:=rj h;split at h
  . exact⟨_,h⟩
  . exact⟨_,h⟩
  . exact⟨_,h⟩
  . exact h.elim
 oT k h x:=h x
def Port.str(l:Loc):Port where
 T:=List UInt8
 rd s k:=Ao s l λ|.str n=>k n|_=>False
 ws _ n:=[(l,P2 l (.str n))]
 all k:=∀n,k n
 ok s k h:=by
  obtain⟨x,h⟩:=rj h;split at h
  . exact⟨_,h⟩
  . exact h.elim
 oT k h x:=h x
def Port.bF(E:Type)(es:Nat)(enc:E->List SV)(dec:List SV->E)(l:Loc):Port where
 T:=Nat×(Nat->E)
 rd s k:=Ao s l λ|.bF _ n f=>k (n,λj=>dec (f j))|.aq=>k (0,λ_=>dec [])|_=>False
 ws _ x:=match x with|(n,g)=>[(l,P2 l (.bF es n λj=>enc (g j)))]
 all k:=∀n g,k (n,g)
 ok s k h:=by
  obtain⟨x,h⟩:=rj h;split at h
  . exact⟨_,h⟩
  . exact⟨_,h⟩
  . exact h.elim
 oT k h x:=by obtain⟨n,g⟩:=x;exact h n g
def Port.row(E:Type)(id es:Nat)(e:TypeId)(enc:E->List SV)(dec:List SV->E)(at_:List Loc):Port where
 T:=Nat×(Nat->E)
 rd s k:=match s.get (.sg id 0)with|.s (.a n _ f)=>k (n,λj=>dec (f j))|_=>k (0,λ_=>dec [])
 ws s x:=match x with
  |(n,g)=>match s.get (.mt id)with
   |.m (some m)=>(.sg id 0,.s (.a n es λj=>enc (g j)))::at_.map λl=>(l,P2 l (.sl id m.aD 0 n))
   |_=>(.mt id,.m (some ⟨0,false,true,some e,1,es,[]⟩))::(.sg id 0,.s (.a n es λj=>enc (g j)))::at_.map λl=>(l,P2 l (.sl id 0 0 n))
 all k:=∀n g,k (n,g)
 ok s k h:=by
  split at h
  . exact⟨_,h⟩
  . exact⟨_,h⟩
 oT k h x:=by obtain⟨n,g⟩:=x;exact h n g
structure kM where
 p0 : Port
 p : Port
 I : p0.T -> p.T -> Prop
 μ : p0.T -> p.T -> Nat
def Hr:List Oper->List Nat->List Nat
 |[],l=>l
 |o::r,l=>match o.dst with
  |some d=>Hr r (d::l)
  |none=>Hr r l
def Dz:Code->List Nat->List Nat
 |.seq a b,l=>Dz a (Dz b l)
 |.cond _ a b,l=>Dz a (Dz b l)
 |.block _ c,l=>Dz c l
 |.loop c,l=>Dz c l
 |.scope c,l=>Dz c l
 |.region _ ops _,l=>Hr ops.toList l
 |_,l=>l
def oN:Code->Nat
 |.seq a b=>oN a+oN b
 |.cond _ a b=>oN a+oN b
 |.block _ c=>oN c
 |.loop c=>oN c+1
 |.scope c=>oN c
 |_=>0
def clrs(l:List Nat):List (Loc×Item):=l.map λt=>(.tm t,.v .any)
def XS(s:bg)(b:List (Loc×Item))(k:bg->Prop):Prop:=ux s b λs=>s.force k
def bg.wr(s:bg)(b:List (Loc×Item)):bg:=(s.apply b).getD s
theorem DQ:∀{ws:List (Loc×Item)}{s:bg}{k:bg->Prop},ux s ws k->k (s.wr ws)
 |[],_,_,h=>h
 |(l,x)::r,s,k,h=>by
  obtain⟨d,b,c⟩:=bg.uT h;have:=DQ (ws:=r) c;cases i:d.apply r with
  |none=>
   have:s.wr ((l,x)::r)=s:=by simp[bg.wr,bg.apply,b,i]
   exfalso;have j:∀{ws:List (Loc×Item)}{s:bg}{k:bg->Prop},ux s ws k->s.apply ws≠none:=by
    intro ws
    induction ws with
    |nil=>intro s k _ m;simp[bg.apply]at m
    |cons y r o=>
     intro s k h;obtain⟨l,x⟩:=y;obtain⟨d,b,c⟩:=bg.uT h;simp only[bg.apply,b];exact o c
   exact j c i
  |some p=>
   have e:s.wr ((l,x)::r)=d.wr r:=by simp[bg.wr,bg.apply,b,i]
   rw[e];exact this
theorem Cj{b:List (Loc×Item)}{s:bg}{k:bg->Prop}(h:XS s b k):k (s.wr b):=by
 have:=DQ h
 rwa[bg.force_eq]at this
def rdMk:List Operand->Nat->Nat
 |[],m=>m
 |.tmp t::r,m=>rdMk r (m|||(1<<<t))
 |_::r,m=>rdMk r m
def Zq(m d:Nat):Nat:=match Nat.beq ((m>>>d)%2) 0 with
 |true=>m
 |false=>m-(1<<<d)
def Ua:List Oper->Nat->Nat
 |[],m=>m
 |o::r,m=>rdMk o.op.operands.toList (match o.guard,o.dst with
  |none,some d=>Zq (Ua r m) d
  |_,_=>Ua r m)
def rP(q:Nat):Code->Nat->(Nat->Nat)->Nat
 |.seq a b,m,e=>rP q a (rP q b m e) e
 |.cond c a b,m,e=>rdMk [c] (rP q a m e|||rP q b m e)
 |.block id c,m,e=>rP q c m λi=>match Nat.beq i id with|true=>m|false=>e i
 |.loop c,_,e=>rP q c 0 e
 |.scope c,m,e=>rP q c m e
 |.region _ ops _,m,_=>Ua ops.toList m
 |.exit i,_,e=>e i
 |.ret,_,_=>q
 |_,m,_=>m
def we(q:Nat):Code->Nat->(Nat->Nat)->List Nat
 |.seq a b,m,e=>we q a (rP q b m e) e++we q b m e
 |.cond _ a b,m,e=>we q a m e++we q b m e
 |.block id c,m,e=>we q c m λi=>match Nat.beq i id with|true=>m|false=>e i
 |.scope c,m,e=>we q c m e
 |.loop c,_,e=>rP q c 0 e::we q c (rP q c 0 e) e
 |_,_,_=>[]
def resM:List ResultVar->Nat
 |[]=>0
 |.tmp t::r=>resM r|||(1<<<t)
 |.cell t _::r=>resM r|||(1<<<t)
def UY:List kM->List Nat->List (kM×Nat)
 |a::r,[]=>(a,0)::UY r []
 |a::r,m::l=>(a,m)::UY r l
 |[],_=>[]
def ZB(m:Nat):Nat->List Nat->List Nat
 |0,l=>l
 |n+1,l=>ZB m n (match Nat.beq ((m>>>n)%2) 0 with|true=>n::l|false=>l)
def dedA(m N:Nat)(l:List Nat):List Nat:=match m with
 |0=>l
 |k+1=>ZB (Nat.succ k) N l
def oV(X:Ctx):Code->List (kM×Nat)->bg->(bg->Prop)->(Nat->bg->Prop)->(bg->Prop)->Prop
 |.skip,_,s,d,_,_=>d s
 |.label _,_,s,d,_,_=>d s
 |.seq a b,A,s,d,e,h=>oV X a A s (λs=>oV X b (A.drop (oN a)) s d e h) e h
 |.cond c a b,A,s,d,e,h=>IV c s (λs=>oV X a A s d e h) (λs=>oV X b (A.drop (oN a)) s d e h)
 |.block id c,A,s,d,e,h=>oV X c A s d (λi s=>match Nat.beq i id with|true=>d s|false=>e i s) h
 |.scope c,A,s,d,e,h=>oV X c A s d e h
 |.exit id,_,s,_,e,_=>e id s
 |.ret,_,s,_,_,h=>h s
 |.region _ ops draw,_,s,d,_,_=>match FL X.N ops with
  |true=>mJ X ops ops.toList 0 s [] λs r=>Lu draw ops r/\d s
  |false=>False
 |.loop c,A,s,_,e,h=>match A with
  |[]=>False
  |(⟨u,p,I,μ⟩,w)::A=>QI p.fz s λs=>u.rd s λm=>XS s (clrs (dedA w X.N (Dz c []))) λj=>
   (p.rd s λx=>I m x/\XS j (p.ws j x) λo=>Ma s o)/\
   p.all λx=>I m x->XS j (p.ws j x) λo=>oV X c A o (λk=>QI p.fz k λk=>renW p.sw k λk=>p.rd k λq=>I m q/\μ m q<μ m x/\XS j (p.ws j q) λy=>Ma k y) e h
 |_,_,_,_,_,_=>False
theorem pU{E:Env}(J:∀o r,E.K o r){X:Ctx}(hN:E.N=X.N)(hC:∀f c,X.C f=some c->nh X.P f c)(hm:X.P.follows .mixedOrders=true):∀(c:Code)(A:List (kM×Nat))(s:bg)(m:bg->Prop)(q:Nat->bg->Prop)(u:bg->Prop),oV X c A s m q u->
 ∀Q:Exit->Act->World->Prop,(∀s:bg,m s->∀a w,dL E s.get w a->Q .normal a w)->(∀(i:Nat)(s:bg),q i s->∀a w,dL E s.get w a->Q (.exit i) a w)->(∀s:bg,u s->∀a w,dL E s.get w a->Q .ret a w)->
 ∀a w,dL E s.get w a->c.wp X.P Q a w:=by
 intro c
 induction c with
 |skip=>intro A s m q u h Q d e j a w b;exact wp_skip (d s h a w b)
 |label l=>intro A s m q u h Q d e j a w b;exact wp_label (d s h a w b)
 |seq x y B D=>
  intro A s m q u h Q d e j a w b;exact wp_seq (B A s _ _ _ h (Exit.then (y.wp X.P Q) Q) (λz k a w b=>D _ z _ _ _ k Q d e j a w b) e j a w b)
 |cond c x y B D=>
  intro A s m q u h Q d e j a w b;exact EN h b (λz k F=>B _ z _ _ _ k Q d e j a w F) (λz k F=>D _ z _ _ _ k Q d e j a w F)
 |block id x H=>
  intro A s m q u h Q d e j a w b;refine wp_block (H A s _ _ _ h (Exit.inBlock id Q) d (λi z k a w b=>?_) j a w b);simp only[Exit.inBlock];split at k
  . rename_i O;rw[JB (Jd O)];exact d z k a w b
  . rename_i O;rw[JA (Nat.ne_of_beq_eq_false O)];exact e i z k a w b
 |scope c H=>intro A s m q u h Q d e j a w b;exact wp_scope_straight (H A s m q u h (Exit.noGoto Q) d e j a w b)
 |exit id=>intro A s m q u h Q d e j a w b;exact wp_exit (e id s h a w b)
 |ret=>intro A s m q u h Q d e j a w b;exact wp_ret (j s h a w b)
 |loop c H=>
  intro A s m q u h Q d e j a w b;cases A with
  |nil=>exact h.elim
  |cons A0 A=>
  obtain⟨⟨p0,p,I,μ⟩,lm⟩:=A0;simp only[oV]at h;obtain⟨s,b,h⟩:=Cf h b;obtain⟨L,h⟩:=p0.ok _ _ h;have h:=Cj h;obtain⟨k,M⟩:=h;generalize s.wr (clrs (dedA lm X.N (Dz c [])))=z at k M;obtain⟨x1,R,k⟩:=p.ok _ _ k;have k:=Cj k;have M:=p.oT _ M;refine wp_loop_ghost (λn a w=>∃x,I L x/\μ L x=n/\dL E (z.wr (p.ws z x)).get w a) (μ L x1) ⟨x1,R,rfl,DB J k b⟩ ?_;rintro n a w ⟨x,R,rfl,b⟩;refine H A _ _ _ _ (Cj (M x R)) (Exit.then _ Q) (λs2 G a w b=>?_) e j a w b
  obtain⟨s2,b,G⟩:=Cf G b;obtain⟨s2,b,G⟩:=renW_ok J G b;obtain⟨x',Z,ac,G⟩:=p.ok _ _ G;exact⟨μ L x',ac,x',Z,rfl,DB J (Cj G) b⟩
 |region id ops draw=>
  intro A s m q u h;exact Hl hN hC hm (.region id ops draw) (.inr J) s m q u h
 |_=>intro A s m q u h;exact h.elim
def H9(P:Program)(C:Nat->Option bB)(fn:Func)(b:Code)(A:List kM)(args:List SV)(r:SV):Prop:=
 (mh fn.ntmps args).force λs=>oV ⟨P,fn.ntmps,C⟩ b (UY A (we (resM fn.results.toList) b (resM fn.results.toList) λ_=>0)) s (Gx P fn r) (λ_ _=>False) (Gx P fn r)
theorem av {P:Program} {T:List (Nat×bB)} (hT:aH P T) {f:Nat} {fn:Func} (hm:P.follows .mixedOrders=true) (hf:P.funcs[f]?=some fn) (hb:fn.body=some (mB fn)) (hname:(fn.name== "runtime.NumGoroutine")=false)
 {α:Type} {n:Nat} {dec:List SV->Option (Prop×α)} {enc:α->List SV} {pre:α->Prop} {res:α->SV} (hd:SX n dec enc) (hn:Nat.ble n fn.ntmps=true) (A:α->List kM) (H:∀a,pre a->H9 P (WQ T) fn (mB fn) (A a) (enc a) (res a)):aH P ((f,ow dec pre res)::T):=by
 refine⟨⟨⟨fn,hf,by simp[hb],hname⟩,λargs p r hc hp R w vals hR hrel=>?_⟩,hT⟩;unfold ow at hc;rw[kJ]at hc;split at hc
 case h_2=>cases hc
 rename_i q a ha;simp only[J3,Q4]at hc;obtain⟨rfl,rfl⟩:=hc;obtain⟨h1,h2⟩:=hd _ _ _ ha hp.1;have hvc:=H _ hp.2;unfold H9 at hvc;rw[bg.force_eq]at hvc;exact Rk hf hb (by rw[<-(tW h1).1,h2];exact Qk hn) (λE hE hK Q hn hx hr a w hs=>pU (E:=E) hK (X:=⟨P,fn.ntmps,WQ T⟩) hE (HP hT) hm _ _ _ _ _ _ hvc Q hn hx hr a w hs) R w vals hR (AW (Kp.none _ _) h1 hrel)
end Go.Sx
namespace Go.Sx
open Go Go.RowKit Go.ChangeShapes Go.WideShapes Go.ChangeAt
variable [bW]
inductive CS : Type
 | int (k : IntKind)
 | bool
 | str
 | sl (ks : List CS)
mutual
def HasK : CS -> SV -> Prop
 | .int k, x => ∃ n, x = .int k n /\ (Lit.int k n).wf = true
 | .bool, x => ∃ b, x = .bool b
 | .str, x => ∃ s, x = .str s /\ s.length <= maxLen
 | .sl ks, x => ∃ n f, x = .bF ks.length n f /\ n <= maxLen /\ ∀ i, i < n -> HasKL ks (f i)
def HasKL : List CS -> List SV -> Prop
 | [], l => l = []
 | k :: ks, l => ∃ x r, l = x :: r /\ HasK k x /\ HasKL ks r
end
def tH(z:TypeId->Option (List CS))(P:Program)(b:Nat):List Field->Option (List CS)
 |[]=>some []
 |f::fs=>match z f.type with
  |some l=>if f.offset=b/\l.length=P.cellsOf f.type then(tH z P (b+l.length) fs).map (l++ ·)else none
  |none=>none
def shapeOf(P:Program):Nat->TypeId->Option (List CS)
 |0,_=>none
 |d+1,t=>match P.underlying t with
  |some (.int k)=>some [.int k]
  |some .bool=>some [.bool]
  |some .string=>some [.str]
  |some (.slice e)=>match shapeOf P d e with
   |some b=>if b.length=P.cellsOf e/\0<b.length then some [.sl b]else none
   |none=>none
  |some (.struct c)=>match tH (shapeOf P d) P 0 c.toList with
   |some b=>if b.length=P.cellsOf t then some b else none
   |none=>none
  |some (.array n e)=>match shapeOf P d e with
   |some b=>if b.length=P.cellsOf e/\n*b.length=P.cellsOf t then some (List.replicate n b).flatten else none
   |none=>none
  |_=>none
theorem kc:∀{b:List CS}{l:List SV},HasKL b l->l.length=b.length
 |[],l,h=>by simp only[HasKL]at h;subst h;rfl
 |k::b,l,h=>by
  simp only[HasKL]at h;obtain⟨x,r,rfl,_,h⟩:=h;simp[kc h]
theorem ou:∀{d b:List CS}{l c:List SV},HasKL d l->HasKL b c->HasKL (d++b) (l++c)
 |[],b,l,c,h,h'=>by simp only[HasKL]at h;subst h;exact h'
 |k::d,b,l,c,h,h'=>by
  simp only[HasKL]at h;obtain⟨x,r,rfl,e,h⟩:=h;simp only[K0,HasKL];exact⟨x,_,rfl,e,ou h h'⟩
theorem qi{e:RO}{b:Own}:∀{l c:List SV}{v d:List Value},aQ e b l v->aQ e b c d->aQ e b (l++c) (v++d)
 |[],c,[],d,_,h'=>h'
 |x::r,c,y::s,d,h,h'=>⟨h.1,qi h.2 h'⟩
 |[],_,_::_,_,h,_=>h.elim
 |_::_,_,[],_,h,_=>h.elim
def qG(W:World):RO:=λb o=>W.cell? ⟨b,o,none⟩
theorem mapM_some{α β:Type}{f:α->Option β}:∀{l:List α}{r:List β},l.mapM f=some r->∀a∈l,∃b,f a=some b
 |[],_,_,a,h=>by cases h
 |x::l,r,h,a,d=>by
  simp only[Xn,Zf,Xe]at h;obtain⟨b,e,c,i,_⟩:=h;simp only[Kd]at d;rcases d with rfl|d
  . exact⟨b,e⟩
  . exact mapM_some i a d
theorem BD{W:World}{e n:Nat}{a:Addr}{l:List Value}(h:W.cells? e a n=some l):l.length=n/\∀j v,l[j]?=some v->W.cell? (a.add j)=some v:=by
 unfold World.cells? at h;split at h
 case isFalse=>cases h
 have key:∀(m k:Nat)(l:List Value),(List.range' k m).mapM (λi=>W.cell? (a.add i))=some l->l.length=m/\∀j v,l[j]?=some v->W.cell? (a.add (k+j))=some v:=by
  intro m
  induction m with
  |zero=>intro k l h;simp at h;subst h;simp
  |succ m q=>
   intro k l h;rw[Z7]at h;simp only[Xn,Zf,Xe,Option.pure_def,J3]at h;obtain⟨b,r,c,u,rfl⟩:=h;obtain⟨o,p⟩:=q _ _ u;refine⟨by simp[o],λj v d=>?_⟩;cases j with
   |zero=>simp at d;subst d;exact r
   |succ j=>simp at d;have:=p j v d;rwa[show k+1+j=k+(j+1) by omega]at this
 rw[List.range_eq_range']at h;obtain⟨o,p⟩:=key _ _ _ h;exact⟨o,λj v d=>by simpa using p j v d⟩
section
variable {H : Type} {enc : TypeId × Value -> H} {P : Program} {W : World}
theorem wD{z:TypeId->Option (List CS)}{u:TypeId->List Value->Option (DataW H×List MemPlace)}{k:List Value}(w:∀t c x j,u t c=some x->z t=some j->∃d,HasKL j d/\aQ (qG W) Own.empty d c):
 ∀(m:List Field)(off:Nat)(r:List (DataW H×List MemPlace))(j:List CS),m.mapM (λf=>u f.type ((k.drop f.offset).take (P.cellsOf f.type)))=some r->tH z P off m=some j->off+j.length=k.length->∃d,HasKL j d/\aQ (qG W) Own.empty d (k.drop off)
 |[],off,r,j,_,i,hl=>by
  simp[tH]at i;subst i;refine⟨[],rfl,?_⟩;simp at hl;rw[Yf (by omega)];trivial
 |f::m,off,r,j,h,i,hl=>by
  simp only[Xn,Zf,Xe]at h;obtain⟨b,A,c,B,_⟩:=h;simp only[tH]at i;split at i
  case h_2=>cases i
  rename_i l C;split at i
  case isFalse=>cases i
  rename_i o;obtain⟨o,D⟩:=o;simp only[Jp]at i;obtain⟨p,q,rfl⟩:=i;obtain⟨E,F,y⟩:=w _ _ _ _ A C;simp at hl;obtain⟨G,J,K⟩:=wD w m (off+l.length) c p B q (by omega);refine⟨E++G,ou F J,?_⟩;have e:k.drop off=(k.drop off).take l.length++k.drop (off+l.length):=by
   rw[<-List.drop_drop,Xb]
  rw[e];rw[o,<-D]at y;exact qi y K
theorem zF{p:List Value->Option (DataW H×List MemPlace)}{m:List Value}{j:List CS}(q:∀c x,p c=some x->∃d,HasKL j d/\aQ (qG W) Own.empty d c):
 ∀(n k:Nat)(r:List (DataW H×List MemPlace)),(List.range' k n).mapM (λi=>p ((m.drop (i*j.length)).take j.length))=some r->(k+n)*j.length=m.length->∃d,HasKL (List.replicate n j).flatten d/\aQ (qG W) Own.empty d (m.drop (k*j.length))
 |0,k,r,_,o=>by
  refine⟨[],by simp[HasKL],?_⟩;rw[Yf (by simp at o;omega)];trivial
 |n+1,k,r,h,o=>by
  rw[Z7]at h;simp only[Xn,Zf,Xe]at h;obtain⟨b,u,c,w,_⟩:=h;obtain⟨y,z,A⟩:=q _ _ u;obtain⟨B,C,D⟩:=zF q n (k+1) c w (by rw[<-o];congr 1;omega);refine⟨y++B,by rw[Qy,List.flatten_cons];exact ou z C,?_⟩;have e:m.drop (k*j.length)=(m.drop (k*j.length)).take j.length++m.drop ((k+1)*j.length):=by
   rw[Ji,Nat.one_mul,<-List.drop_drop,Xb]
  rw[e];exact qi A D
theorem trod_int{b:Nat}{t:TypeId}{k:IntKind}{c:List Value}{x:DataW H×List MemPlace}(d:P.underlying t=some (.int k))(h:DataW.trod enc P W 0 (λ_=>true) true (b+1) t c=some x):∃n,c=[.int k n]/\(Lit.int k n).wf=true:=by
 unfold DataW.trod at h;split at h<;>first|(exfalso;simp_all;done)|skip
 rename_i m o n e;rw[d]at e;cases e;split at h
 case isFalse=>cases h
 rename_i i;obtain⟨rfl,j⟩:=i;exact⟨n,rfl,j⟩
theorem trod_bool{b:Nat}{t:TypeId}{c:List Value}{x:DataW H×List MemPlace}(d:P.underlying t=some .bool)(h:DataW.trod enc P W 0 (λ_=>true) true (b+1) t c=some x):∃n,c=[.bool n]:=by
 unfold DataW.trod at h;split at h<;>first|(exfalso;simp_all;done)|skip
 exact⟨_,rfl⟩
theorem Oj{b:Nat}{t:TypeId}{c:List Value}{x:DataW H×List MemPlace}(d:P.underlying t=some .string)(h:DataW.trod enc P W 0 (λ_=>true) true (b+1) t c=some x):∃n:ByteArray,c=[.string n]/\n.size<=maxLen:=by
 unfold DataW.trod at h;split at h<;>first|(exfalso;simp_all;done)|skip
 split at h
 case isFalse=>cases h
 exact⟨_,rfl, ‹_›⟩
theorem Rf{c:Nat}{t e:TypeId}{j:List Value}{x:DataW H×List MemPlace}(q:P.underlying t=some (.slice e))(h:DataW.trod enc P W 0 (λ_=>true) true (c+1) t j=some x):
 j=[.slice none 0 0]\/∃a len cap,j=[.slice (some a) len cap]/\len<=cap/\cap<=maxLen/\∀i,i<len->∃l y,W.cells? 0 (a.add (i*P.cellsOf e)) (P.cellsOf e)=some l/\DataW.trod enc P W 0 (λ_=>true) true c e l=some y:=by
 unfold DataW.trod at h;split at h<;>first|(exfalso;simp_all;done)|skip
 . exact .inl rfl
 . rename_i w a len cap o;rw[q]at o;cases o;split at h
   case isFalse=>cases h
   rename_i p;simp only[Xe]at h;obtain⟨k,m,_⟩:=h;refine .inr ⟨a,len,cap,rfl,p.2.1,p.2.2,λi r=>?_⟩;obtain⟨b,d⟩:=mapM_some m i (by simpa using r);simp only[Xe]at d;obtain⟨l,u,d⟩:=d;exact⟨l,b,u,d⟩
theorem trod_struct{b:Nat}{t:TypeId}{d:Array Field}{c:List Value}{x:DataW H×List MemPlace}(i:P.underlying t=some (.struct d))(h:DataW.trod enc P W 0 (λ_=>true) true (b+1) t c=some x):
 c.length=P.cellsOf t/\∃r,d.toList.mapM (λf=>DataW.trod enc P W 0 (λ_=>true) true b f.type ((c.drop f.offset).take (P.cellsOf f.type)))=some r:=by
 unfold DataW.trod at h;split at h<;>first|(exfalso;simp_all;done)|skip
 rename_i e;rw[i]at e;cases e;split at h
 case isFalse=>cases h
 rename_i j;simp only[Jp]at h;obtain⟨r,k,_⟩:=h;exact⟨j,r,k⟩
theorem trod_array{b:Nat}{t e:TypeId}{n:Nat}{c:List Value}{x:DataW H×List MemPlace}(d:P.underlying t=some (.array n e))(h:DataW.trod enc P W 0 (λ_=>true) true (b+1) t c=some x):
 c.length=P.cellsOf t/\∃r,(List.range n).mapM (λi=>DataW.trod enc P W 0 (λ_=>true) true b e ((c.drop (i*P.cellsOf e)).take (P.cellsOf e)))=some r:=by
 unfold DataW.trod at h;split at h<;>first|(exfalso;simp_all;done)|skip
 rename_i e;rw[d]at e;cases e;split at h
 case isFalse=>cases h
 rename_i j;simp only[Jp]at h;obtain⟨r,k,_⟩:=h;exact⟨j,r,k⟩
theorem H2:∀(z d:Nat)(t:TypeId)(L:List Value)(x:DataW H×List MemPlace)(G:List CS),DataW.trod enc P W 0 (λ_=>true) true z t L=some x->shapeOf P d t=some G->∃o,HasKL G o/\aQ (qG W) Own.empty o L:=by
 intro z
 induction z with
 |zero=>intro d t L x G h;simp[DataW.trod]at h
 |succ z O=>
  intro d t L x G h q;cases d with
  |zero=>simp[shapeOf]at q
  |succ d=>
  simp only[shapeOf]at q;split at q
  . rename_i k hu;cases q;obtain⟨n,rfl,hw⟩:=trod_int hu h;exact⟨[.int _ _],by simp only[HasKL,HasK];exact⟨_,_,rfl,⟨_,rfl,hw⟩,rfl⟩,.int _ _ _,trivial⟩
  . rename_i hu;cases q;obtain⟨n,rfl⟩:=trod_bool hu h;exact⟨[.bool _],by simp only[HasKL,HasK];exact⟨_,_,rfl,⟨_,rfl⟩,rfl⟩,.bool _ _,trivial⟩
  . rename_i hu;cases q;obtain⟨s,rfl,R⟩:=Oj hu h;refine⟨[.str s.data.toList],by simp only[HasKL,HasK];exact⟨_,_,rfl,⟨_,rfl,by simpa using R⟩,rfl⟩,?_,trivial⟩;have:=Rel.str (ro:=qG W) Own.empty s.data.toList;simpa using this
  . rename_i e hu;split at q
    case h_2=>cases q
    rename_i m D;split at q
    case isFalse=>cases q
    rename_i p;obtain⟨p,X⟩:=p;cases q;rcases Rf hu h with rfl|⟨a,len,cap,rfl,Z,aq,ac⟩
    . exact⟨[.bF m.length 0 λ_=>[]],by simp only[HasKL,HasK];exact⟨_,_,rfl,⟨_,_,rfl,X0 _,λi w=>by omega⟩,rfl⟩,.fe _ _ _ _ _ _ rfl,trivial⟩
    . have hE:∀i,i<len->∃l o,W.cells? 0 (a.add (i*P.cellsOf e)) (P.cellsOf e)=some l/\HasKL m o/\aQ (qG W) Own.empty o l:=by
       intro i w;obtain⟨l,y,hl,hb⟩:=ac i w;obtain⟨o,C,u⟩:=O _ _ _ _ _ hb D;exact⟨l,o,hl,C,u⟩
      by_cases hz:len=0
      . subst hz;exact⟨[.bF m.length 0 λ_=>[]],by simp only[HasKL,HasK];exact⟨_,_,rfl,⟨_,_,rfl,X0 _,λi w=>by omega⟩,rfl⟩,.fe _ _ _ _ _ _ rfl,trivial⟩
      . have A:0<len/\0<m.length:=⟨by omega,X⟩;obtain⟨b,off,spot⟩:=a;have F:spot=none:=by
         obtain⟨l,o,hl,C,_⟩:=hE 0 A.1;obtain⟨e1,e2⟩:=BD hl;have:=e2 0 _ (J4 (by rw[e1,<-p];exact A.2));simpa[Addr.add]using World.cell?_spot this
        subst F;have ad:∀i,∃o,i<len->∃l,W.cells? 0 ((⟨b,off,none⟩:Addr).add (i*P.cellsOf e)) (P.cellsOf e)=some l/\HasKL m o/\aQ (qG W) Own.empty o l:=λi=>by
         by_cases w:i<len
         . obtain⟨l,o,C,u,h3⟩:=hE i w;exact⟨o,λ_=>⟨l,C,u,h3⟩⟩
         . exact⟨[],λh=>absurd h w⟩
        obtain⟨f,M⟩:=Classical.axiomOfChoice ad;refine⟨[.bF m.length len f],by simp only[HasKL,HasK];exact⟨_,_,rfl,⟨_,_,rfl,by omega,λi w=>by obtain⟨l,_,u,_⟩:=M i w;exact u⟩,rfl⟩,?_,trivial⟩;have B:∀i j,i<len->j<m.length->∃v N,W.cell? ⟨b,off+(i*m.length+j),none⟩=some v/\(f i)[j]?=some N/\Rel (qG W) Own.empty N v:=by
         intro i j w K;obtain⟨l,C,u,h3⟩:=M i w;obtain⟨e1,e2⟩:=BD C;have E:j<(f i).length:=by rw[kc u];exact K
         obtain⟨v,J,hr⟩:=h3.at j _ (J4 E);refine⟨v,_,?_,J4 E,hr⟩;have:=e2 j v J;rw[<-p,dU,dU,Kt]at this;exact this
        refine .bF _ _ _ _ b off cap (λk=>(W.cell? ⟨b,off+k,none⟩).getD undef) Z (λi w=>by obtain⟨l,_,u,_⟩:=M i w;exact kc u) (λk R=>?_) (λi j N w K=>?_)
        . have C:k/m.length<len:=by rw[K9 A.2];exact R
          obtain⟨v,N,J,_⟩:=B (k/m.length) (k%m.length) C (Ki _ A.2);rw[Km,Q5]at J;simp[qG,J]
        . have E:j<m.length:=by
           obtain⟨l,_,u,_⟩:=M i w;rw[<-kc u];exact(Jb.1 K).1
          obtain⟨v,aw,J,al,hr⟩:=B i j w E;rw[al]at K;cases K;simp[J,hr]
  . rename_i fs hu;split at q
    case h_2=>cases q
    rename_i m D;split at q
    case isFalse=>cases q
    rename_i p;cases q;obtain⟨C,r,u⟩:=trod_struct hu h;have:=wD (W:=W) (λt c x G C u=>O d t c x G C u) fs.toList 0 r _ u D (by omega);simpa using this
  . rename_i n e hu;split at q
    case h_2=>cases q
    rename_i m D;split at q
    case isFalse=>cases q
    rename_i p;cases q;obtain⟨C,r,u⟩:=trod_array hu h;rw[<-p.1,List.range_eq_range']at u;have:=zF (W:=W) (λc x h=>O d e c x m h D) n 0 r u (by rw[C,<-p.2];simp);simpa using this
  . cases q
def ML(agg:Bool)(l:List SV):SV:=match agg with
 |true=>.agg (l.map .s)
 |false=>l.headD .any
def kD(P:Program):List TypeId->List SV->Prop
 |[],xs=>xs=[]
 |t::ts,xs=>∃c agg b r,shapeOf P 9 t=some c/\bZ P t=some agg/\HasKL c b/\xs=ML agg b::r/\kD P ts r
theorem Pe{t:TypeId}{v:Value}{d:DataW H}{z:List MemPlace}{o:Nat}{r:List CS}{agg:Bool}(b:Value.okWide P W .any o t v)(A:DataW.Trod enc P W 0 (λ_=>true) true t v d z)(q:shapeOf P 9 t=some r)(j:bZ P t=some agg):
 ∃c,HasKL r c/\Rel (qG W) Own.empty (ML agg c) v:=by
 obtain⟨p,B⟩:=A;obtain⟨c,C,m⟩:=H2 p 9 t _ _ r B q;refine⟨c,C,?_⟩;have e:=m.length;unfold bZ at j;unfold Value.okWide at b;cases agg with
 |true=>
  have:∃i,v=.agg i:=by
   split at j
   . rename_i hu;rw[hu]at b;obtain⟨i,h,_⟩:=b;exact⟨i,h⟩
   . rename_i hu;rw[hu]at b;obtain⟨i,h,_⟩:=b;exact⟨i,h⟩
   . cases j
   . cases j
  obtain⟨i,rfl⟩:=this;simp only[Value.cells]at m e;refine .agg _ _ _ (by rw[fY,e];simp) λk D y=>?_
  rw[lj]at y;obtain⟨u,hu,E⟩:=m.at k D y;simp only[Xp]at hu;simpa[hu]using E
 |false=>
  have w:∀i,v≠ .agg i:=by
   rintro i rfl;split at j
   . cases j
   . cases j
   . rename_i G J hu;simp only[hu]at b;unfold shapeOf at q;rw[hu]at q;unfold Cell.okWide at b;split at q<;>simp_all[Cell.ok]
   . cases j
  have F:v.cells.toList=[v]:=by
   unfold Value.cells;split
   . exact absurd rfl (w _)
   . rfl
  rw[F]at m e
  match c,m with
  |[x],m=>exact m.1
theorem BN{b:Nat}:∀{c:List TypeId}{e:List Value}{m:List (DataW H)}{o:List MemPlace},DataW.TrodAll enc P W 0 (λ_=>true) true c e m o->(∀(j:Nat) t v,c[j]?=some t->e[j]?=some v->Value.okWide P W .any b t v)->
 (c.all λt=>(shapeOf P 9 t).isSome&&(bZ P t).isSome)=true->∃i,kD P c i/\aQ (qG W) Own.empty i e
 |[],e,m,o,h,_,_=>by
  obtain⟨rfl,_,_⟩:=trodAll_nil h;exact⟨[],rfl,trivial⟩
 |t::c,e,m,o,h,hv,k=>by
  obtain⟨v,z,d,A,p,q,rfl,rfl,rfl,r,u⟩:=trodAll_cons h;simp only[List.all_cons,J2,Qi]at k;obtain⟨⟨⟨B,x⟩,⟨agg,y⟩⟩,k⟩:=k;obtain⟨w,C,D⟩:=Pe (hv 0 t v rfl rfl) r x y;obtain⟨i,E,F⟩:=BN u (λj t v r u=>hv (j+1) t v (by simpa using r) (by simpa using u)) k;exact⟨_,⟨B,agg,w,i,x,y,C,rfl,E⟩,D,F⟩
theorem AF(o:laidOutB P=true){W r:World}(c:Below W.heap.size W r):∀{e:List TypeId}{i:List Value}{j:List (DataW H)}{k:List MemPlace},DataW.TrodAll enc P W 0 (λ_=>true) true e i j k->
 (e.all λt=>P.readableRec t&&decide (t<P.types.size))=true->DataW.TrodAll enc P r 0 (λb=>decide (b<W.heap.size)) true e i j k
 |[],i,j,k,h,_=>by
  obtain⟨rfl,rfl,rfl⟩:=trodAll_nil h;exact rfl
 |t::e,i,j,k,h,ht=>by
  obtain⟨v,w,d,x,p,q,rfl,rfl,rfl,u,y⟩:=trodAll_cons h;simp only[List.all_cons,J2,JG]at ht;refine trodAll_cons_mk (Below.trod o ht.1.1 ht.1.2 u c ?_) (AF o c y ht.2);obtain⟨m,z⟩:=u;exact DataW.trod_lt m _ _ _ z
end
theorem GV{C:Checked}{L:Os}(m:L.Started){H:Type}{y:TypeId×Value->H}{f:FuncId}{fn:Func}{s:ChangeSpec}{tb:TypeId}(M:ownKnob C.prog.godebug=none)(hl:laidOutB C.prog=true)(z:C.prog.inits.idxOf? f=none)(N:C.prog.funcs[f]?=some fn)
 (r:s.vars=[]) (B:fn.resultTypes= #[tb]) (hb:C.prog.underlying tb=some .bool)
 (c:∀k:List (DataW H),k.length=fn.params.toList.length->s.fn H k={results:=[.lit (.bool true)],args:=k})
 (O:(fn.params.toList.all λt=>(shapeOf C.prog 9 t).isSome&&(bZ C.prog t).isSome)=true) (D:(fn.params.toList.all λt=>C.prog.readableRec t&&decide (t<C.prog.types.size))=true)
 (u:∃(w:World)(tape:Tape)(i:Input),w.os=L/\(w.forCall tape i).Shaped C.prog/\i.vars=[]/\Input.okWide C.prog (w.forCall tape i) .any w.heap.size f i/\
  s.pre6 y C.prog fn [] false (w.forCall tape i).memory i.args/\({}:Assume).holds C.prog (lone (Frame.enter C.prog f i.args .normal) [] (w.forCall tape i)))
 (A:∀(W:World)(K:List SV)(args:Array Value),kD C.prog fn.params.toList K->aQ (qG W) Own.empty K args.toList->Calls C.prog f args W λe R=>∃v E,e=.returned v/\Rel E Own.empty .tt v/\ga (qG W) E/\(∀b o v,E b o=some v->R.cell? ⟨b,o,none⟩=some v)/\(∀b o,b<W.heap.size->E b o=(qG W) b o)/\Below W.heap.size W R):
 ReturnsInHanded {} C L f .any (s.pre6 y C.prog fn [] false) (s.post y C.prog fn false true false false):=by
 refine returnsInHanded_of_change (C:=C) M m z N u ?_;intro W base args k gs before F hW _ _;have X:=hW;obtain⟨p,q,Z,hV,rfl,_,_⟩:=hW;rw[r]at hV;obtain⟨rfl,rfl⟩:=trodVars_none hV;have x:k.length=fn.params.toList.length:=by
  have:∀{G:List TypeId}{vs:List Value}{k:List (DataW H)}{ps:List MemPlace},DataW.TrodAll y C.prog W 0 (λ_=>true) true G vs k ps->k.length=G.length:=by
   intro G
   induction G with
   |nil=>intro vs k ps h;obtain⟨_,rfl,_⟩:=trodAll_nil h;rfl
   |cons t G ih=>
    intro vs k ps h;obtain⟨v,ac,d,ad,p,q,rfl,rfl,rfl,h1,h2⟩:=trodAll_cons h;simp[ih h2]
  exact this Z
 obtain⟨K,h1,h2⟩:=BN Z (λj t v ht hv=>F j t v (by simpa using ht) (by simpa using hv)) O;refine(A W K args h1 h2).mono λe R ⟨v,E,he,hr,_,_,_,J⟩=>?_
 subst he;have hv:v=.bool true:=by cases hr;rfl
 subst hv;refine⟨_,rfl,k,[],_,[],p,[],X,?_,?_,?_,J.frame _,λh=>by cases h⟩
 . rw[Kw,c k x,B];exact trodAll_mk1 (shut_bool hb _)
 . rw[Kw,c k x];exact AF hl J Z D
 . rw[r,Kw,c k x];exact rfl
end Go.Sx
namespace Go.Sx
open Go Go.RowKit
variable [bW]
structure Ou (α : Type) where
 n : Nat
 enc : α -> List SV
 dec : List SV -> Option α
 qW : α
 ak : List SV -> Prop
 ok : ∀ l a, dec l = some a -> ak l -> bK l (enc a)
 self : ∀ a, dec (enc a) = some a
 kW : ∀ a, ak (enc a)
 len : ∀ a, (enc a).length = n
 Aa : ∀ (c : Bool) x y a b, dec x = some a -> dec y = some b -> dec (af c x y) = some (if c then a else b)
@[simp] theorem isT:ru true↔True:=⟨λ_=>trivial,λ_=>⟨rfl⟩⟩
def rI(b:IntKind)(x:SV):Option Int:=match x with
 |.int k n=>if k=b then some n else none
 |_=>none
def rB(x:SV):Option Bool:=match x with
 |.bool b=>some b
 |.tt=>some true
 |.ff=>some false
 |_=>none
def rS(x:SV):Option (List UInt8):=match x with
 |.str s=>some s
 |_=>none
def oB{α β:Type}(o:Option α)(k:α->Option β):Option β:=match o with
 |some a=>k a
 |none=>none
theorem gQ{α β:Type}{o:Option α}{k:α->Option β}{b:β}(h:oB o k=some b):∃a,o=some a/\k a=some b:=by
 unfold oB at h;split at h
 . exact⟨_,rfl,h⟩
 . cases h
theorem Fk{b:IntKind}{x:SV}{n:Int}(h:rI b x=some n):x=.int b n:=by
 unfold rI at h;split at h
 . split at h
   . rename_i e;cases h;rw[e]
   . cases h
 . cases h
theorem IC{x:SV}{b:Bool}(h:rB x=some b):DM x (.bool b)/\(x=.bool b\/(b=true/\x=.tt)\/(b=false/\x=.ff)):=by
 unfold rB at h;split at h<;>cases h
 . exact⟨rfl,.inl rfl⟩
 . exact⟨rfl,.inr (.inl ⟨rfl,rfl⟩)⟩
 . exact⟨rfl,.inr (.inr ⟨rfl,rfl⟩)⟩
theorem rS_ok{x:SV}{s:List UInt8}(h:rS x=some s):x=.str s:=by
 unfold rS at h;split at h<;>cases h;rfl
theorem RY{b:IntKind}{x:SV}{n:Int}(h:rI b x=some n):xC x (.int b n):=by rw[Fk h];exact aL.2 ⟨by simp,rfl⟩
theorem BK{x y:SV}(h:xa x y):Dt x y:=by
 unfold Dt;split
 . simp[xa]at h
 . simp[xa]at h
 . exact h
theorem wj:∀{a b:List SV},Im a b->BE a b
 |[],[],_=>trivial
 |_::_,_::_,h=>⟨BK h.1,wj h.2⟩
 |[],_::_,h=>h.elim
 |_::_,[],h=>h.elim
theorem Ld{x y:SV}(h:Dt x y):xC x y:=by
 unfold xC;split
 . exact aL.2 ⟨(aL.1 h).1,(aL.1 h).2.1,λi c=>wj ((aL.1 h).2.2 i c)⟩
 . exact h
 . unfold Dt at h;split at h
   . rename_i b _;exact(b _ _ _ _ _ _ rfl rfl).elim
   . rename_i b;exact(b _ _ _ rfl rfl).elim
   . exact h
theorem aaC:∀{a b:List SV},BE a b->oP a b
 |[],[],_=>trivial
 |_::_,_::_,h=>⟨Ld h.1,aaC h.2⟩
 |[],_::_,h=>h.elim
 |_::_,[],h=>h.elim
theorem NR{x y:SV}(h:xC x y):DM x y:=by
 unfold DM;split
 . exact aL.2 ⟨(aL.1 h).1,(aL.1 h).2.1,λi c=>aaC ((aL.1 h).2.2 i c)⟩
 . exact h
 . unfold xC at h;split at h
   . rename_i b _;exact(b _ _ _ _ _ _ rfl rfl).elim
   . rename_i b;exact(b _ _ _ rfl rfl).elim
   . exact h
theorem zI:∀{a b:List SV},oP a b->bK a b
 |[],[],_=>trivial
 |_::_,_::_,h=>⟨NR h.1,zI h.2⟩
 |[],_::_,h=>h.elim
 |_::_,[],h=>h.elim
theorem vX{b:IntKind}{x:SV}{n:Int}(h:rI b x=some n):DM x (.int b n):=by rw[Fk h];exact aL.2 ⟨by simp,rfl⟩
theorem rS_leZ{x:SV}{s:List UInt8}(h:rS x=some s):DM x (.str s):=by rw[rS_ok h];exact rfl
theorem xk(b:IntKind)(n:Int):rI b (.int b n)=some n:=by simp[rI]
theorem rB_self(b:Bool):rB (.bool b)=some b:=rfl
theorem rS_self(s:List UInt8):rS (.str s)=some s:=rfl
theorem Py{d:IntKind}{c:Bool}{x y:SV}{a b:Int}(h:rI d x=some a)(k:rI d y=some b):rI d (dY c x y)=some (if c then a else b):=by
 rw[Fk h,Fk k];simp[dY,rI]
theorem WT{c:Bool}{x y:SV}{a b:Bool}(h:rB x=some a)(k:rB y=some b):rB (dY c x y)=some (if c then a else b):=by
 rcases(IC h).2 with rfl|⟨rfl,rfl⟩|⟨rfl,rfl⟩<;>rcases(IC k).2 with rfl|⟨rfl,rfl⟩|⟨rfl,rfl⟩<;>cases c<;>rfl
theorem rS_mrg{c:Bool}{x y:SV}{a b:List UInt8}(h:rS x=some a)(k:rS y=some b):rS (dY c x y)=some (if c then a else b):=by
 rw[rS_ok h,rS_ok k];simp[dY,rS]
def aF(ik:IntKind):Ou Int where
 n:=1
 enc a:=[.int ik a]
 dec:=λ|[x]=>rI ik x|_=>none
 qW:=0
 ak _:=True
 kW _:=trivial
 ok l a h _:=by split at h<;>first|cases h;done|exact⟨vX h,trivial⟩
 self a:=xk ik a
 len _:=rfl
 Aa c x y a b h k:=by split at h<;>first|cases h;done|(split at k<;>first|cases k;done|exact Py h k)
def IZ:Ou Bool where
 n:=1
 enc a:=[.bool a]
 dec:=λ|[x]=>rB x|_=>none
 qW:=false
 ak _:=True
 kW _:=trivial
 ok l a h _:=by split at h<;>first|cases h;done|exact⟨(IC h).1,trivial⟩
 self a:=rB_self a
 len _:=rfl
 Aa c x y a b h k:=by split at h<;>first|cases h;done|(split at k<;>first|cases k;done|exact WT h k)
def codS:Ou (List UInt8) where
 n:=1
 enc a:=[.str a]
 dec:=λ|[x]=>rS x|_=>none
 qW:=[]
 ak _:=True
 kW _:=trivial
 ok l a h _:=by split at h<;>first|cases h;done|exact⟨rS_leZ h,trivial⟩
 self a:=rS_self a
 len _:=rfl
 Aa c x y a b h k:=by split at h<;>first|cases h;done|(split at k<;>first|cases k;done|exact rS_mrg h k)
section
variable {α : Type} (C : Ou α)
def ah(n:Nat)(f:Nat->List SV):List α:=(List.range n).map λi=>(C.dec (f i)).getD C.qW
def HB(n:Nat)(f:Nat->List SV):Prop:=∀i,i<n->(C.dec (f i)).isSome=true/\C.ak (f i)
variable {C}
@[simp] theorem jH(n:Nat)(f:Nat->List SV):(ah C n f).length=n:=by simp[ah]
theorem um{n:Nat}{f:Nat->List SV}{i:Nat}(h:i<n)(d:α):(ah C n f).getD i d=(C.dec (f i)).getD C.qW:=by
 simp[ah,h]
theorem kj{n:Nat}{f:Nat->List SV}{l:List α}(c:n=l.length)(h:∀i,i<n->C.dec (f i)=some (l.getD i C.qW)):ah C n f=l:=by
 subst c;apply List.ext_getElem
 . simp[ah]
 . intro i d b;simp[ah,h i b,b]
theorem iJ{n:Nat}{l:List α}(b:n=l.length):ah C n (λi=>C.enc (l.getD i C.qW))=l:=kj b λi _=>C.self _
theorem xx{n k:Nat}{l m:List α}{g:Nat->List SV}(d:n=l.length)(o:k=m.length)(h:∀i,i<k->C.dec (g i)=some (m.getD i C.qW))(p:(C.dec (g 0)).isSome=true):ah C (n+k) (λj=>af (decide (j<n)) (C.enc (l.getD j C.qW)) (g (j-n)))=l++m:=by
 refine kj (by simp[d,o]) λi z=>?_
 by_cases e:i<n
 . have:∀c x y a,C.dec x=some a->c=true->(C.dec y).isSome=true->C.dec (af c x y)=some a:=by
    intro c x y a q r u;obtain⟨b,w⟩:=Qi.1 u;subst r;simpa using C.Aa true x y a b q w
   rw[this _ _ _ _ (C.self _) (by simpa using e)]
   . congr 1
     simp[Ka (show i<l.length by omega)]
   . rw[show i-n=0 by omega,p]
 . have:=C.Aa false (C.enc (l.getD i C.qW)) (g (i-n)) _ _ (C.self _) (h (i-n) (by omega));rw[show decide (i<n)=false by simpa using e,this];simp[Jy (show l.length<=i by omega),d]
theorem xY{n:Nat}{x:List SV}{v:α}(b:C.dec x=some v):ah C n (λ_=>x)=List.replicate n v:=by
 refine kj (by simp) λi c=>?_
 rw[b];simp[c]
theorem aaV{n i:Nat}{l:List α}{x:List SV}{v:α}(b:n=l.length)(c:C.dec x=some v):ah C n (λj=>af (decide (j=i)) x (C.enc (l.getD j C.qW)))=l.set i v:=by
 refine kj (by simp[b]) λj d=>?_
 rw[C.Aa _ _ _ _ _ c (C.self _)]
 by_cases e:j=i
 . subst e;simp[<-b,d]
 . simp[e,Yv e]
end
section
variable {α : Type} {C : Ou α}
theorem rowL_pushE{l:List α}{v:α}:ah C (l.length+1) (λj=>af (decide (j<l.length)) (C.enc (l.getD j C.qW)) (C.enc v))=l++[v]:=xx (C:=C) (k:=1) (m:=[v]) (g:=λ_=>C.enc v) rfl rfl (λi b=>by rw[C.self];simp[show i=0 by omega]) (by rw[C.self];rfl)
theorem R3{n i:Nat}{l:List α}{v:α}(b:n=l.length):ah C n (λj=>af (decide (j=i)) (C.enc v) (C.enc (l.getD j C.qW)))=l.set i v:=aaV b (C.self v)
theorem vQ{l:List α}{x:List SV}{v:α}(b:C.dec x=some v):ah C (l.length+1) (λj=>af (decide (j<l.length)) (C.enc (l.getD j C.qW)) x)=l++[v]:=
 xx (C:=C) (k:=1) (m:=[v]) (g:=λ_=>x) rfl rfl (λi c=>by rw[b];simp[show i=0 by omega]) (by rw[b];rfl)
end
theorem xA{α:Type}{l:List α}{v d:α}{i:Nat}(b:i<l.length+1):(l++[v]).getD i d=if i<l.length then l.getD i d else v:=by
 by_cases h:i<l.length
 . simp[h,Ka h]
 . have:i=l.length:=by omega
   subst this;simp
theorem bo{α:Type}{l:List α}{v d:α}{i j:Nat}(b:j<l.length):(l.set i v).getD j d=if j=i then v else l.getD j d:=by
 by_cases h:j=i
 . subst h;simp[b]
 . simp[h,Yv h]
@[simp] theorem codI_n(b:IntKind):(aF b).n=1:=rfl
@[simp] theorem codI_dft(b:IntKind):(aF b).qW=0:=rfl
@[simp] theorem codI_enc(b:IntKind)(a:Int):(aF b).enc a=[.int b a]:=rfl
@[simp] theorem codB_n:IZ.n=1:=rfl
@[simp] theorem codB_dft:IZ.qW=false:=rfl
@[simp] theorem codB_enc(a:Bool):IZ.enc a=[.bool a]:=rfl
@[simp] theorem codS_n:codS.n=1:=rfl
@[simp] theorem codS_dft:codS.qW=[]:=rfl
@[simp] theorem codS_enc(a:List UInt8):codS.enc a=[.str a]:=rfl
@[simp] theorem pushI{b:IntKind}{l:Ω}{v:Int}:ah (aF b) (l.length+1) (λj=>af (decide (j<l.length)) [.int b (l.getD j 0)] [.int b v])=l++[v]:=vQ (xk b v)
theorem tv{b:IntKind}{n i:Nat}{l:Ω}{v:Int}(c:n=l.length):ah (aF b) n (λj=>af (decide (j=i)) [.int b v] [.int b (l.getD j 0)])=l.set i v:=aaV c (xk b v)
@[simp] theorem zerosI{b:IntKind}{n:Nat}{v:Int}:ah (aF b) n (λ_=>[.int b v])=List.replicate n v:=by
 refine kj (by simp) λi c=>?_
 simp[c];exact xk b v
@[simp] theorem Te{b:IntKind}{l:Ω}:ah (aF b) l.length (λj=>[.int b (l.getD j 0)])=l:=iJ (C:=aF b) rfl
@[simp] theorem pushB{l:List Bool}{v:Bool}:ah IZ (l.length+1) (λj=>af (decide (j<l.length)) [.bool (l.getD j false)] [.bool v])=l++[v]:=vQ (C:=IZ) rfl
@[simp] theorem selfB{l:List Bool}:ah IZ l.length (λj=>[.bool (l.getD j false)])=l:=iJ (C:=IZ) rfl
theorem UW{b:IntKind}:∀l a,(aF b).dec l=some a->(aF b).ak l->oP l ((aF b).enc a):=by
 intro l a h _;simp only[aF]at h⊢;split at h<;>first|cases h;done|exact⟨RY h,trivial⟩
def OE{α:Type}(C:Ou α)(h0:∀l a,C.dec l=some a->C.ak l->oP l (C.enc a)):Ou (List α) where
 n:=1
 enc l:=[.bF C.n l.length λi=>C.enc (l.getD i C.qW)]
 dec:=λ
  |[.bF es n f]=>(match Nat.beq es C.n with
   |true=>some (ah C n f)
   |false=>none)
  |[.aq]=>some []
  |_=>none
 qW:=[]
 ak:=λ
  |[.bF _ n f]=>HB C n f
  |_=>True
 kW a:=λi _=>⟨by rw[C.self];rfl,C.kW _⟩
 ok l a h hg:=by
  split at h
  . split at h
    case h_2=>cases h
    rename_i he;cases h;refine⟨aL.2 ⟨he,(jH _ _).symm,λi hi=>?_⟩,trivial⟩;obtain⟨b,hb⟩:=Qi.1 (hg i hi).1;have:=h0 _ _ hb (hg i hi).2;simp only[um hi,hb];exact this
  . cases h;exact⟨rfl,trivial⟩
  . cases h
 self a:=by
  simp only[Yz];rw[iJ rfl]
 len _:=rfl
 Aa c x y a b h k:=by
  split at h
  . split at h
    case h_2=>cases h
    rename_i he;have he:=Jd he;subst he;cases h;split at k
    . split at k
      case h_2=>cases k
      rename_i he;have he:=Jd he;subst he;cases k;cases c<;>simp[af,dY]
    . cases k;cases c<;>simp[af,dY,ah]
    . cases k
  . cases h;split at k
    . split at k
      case h_2=>cases k
      rename_i he;have he:=Jd he;subst he;cases k;cases c<;>simp[af,dY,ah]
    . cases k;cases c<;>simp[af,dY]
    . cases k
  . cases h
@[simp] theorem setL_mrg{c:Bool}{x y v:SV}:cE (af c [x] [y]) 0 [v]=[v]:=rfl
@[simp] theorem setL_one{a b:SV}:cE [a] 0 [b]=[b]:=rfl
structure Arg (α : Type) where
 enc : α -> SV
 dec : SV -> Option (Prop × α)
 ok : ∀ x p a, dec x = some (p, a) -> p -> KY pk eL x (enc a)
theorem Cy{x y:SV}(h:DM x y):wR pk eL x y:=by
 unfold wR;split
 . simp[DM,xa]at h
 . simp[DM,xa]at h
 . simp[DM,xa]at h
 . simp[DM,xa]at h
 . exact h
 . exact aL.2 ⟨(aL.1 h).1,(aL.1 h).2.1,λi b=>zI ((aL.1 h).2.2 i b)⟩
 . simp[DM,xa]at h
 . exact h
theorem Uu:∀{x y:List SV},bK x y->LV pk eL x y
 |[],[],_=>trivial
 |_::_,_::_,h=>⟨Cy h.1,Uu h.2⟩
 |[],_::_,h=>h.elim
 |_::_,[],h=>h.elim
theorem z4:∀{x y:List SV},bK x y->mA pk eL (x.map .s) (y.map .s)
 |[],[],_=>trivial
 |_::_,_::_,h=>⟨Cy h.1,z4 h.2⟩
 |[],_::_,h=>h.elim
 |_::_,[],h=>h.elim
theorem leE_leB{x y:SV}(h:wR pk eL x y)(b:∀l,y≠ .agg l):KY pk eL x y:=by
 unfold KY;split
 . exact absurd rfl (b _)
 . exact h
theorem L8{x y:SV}(h:DM x y)(b:∀l,y≠ .agg l):KY pk eL x y:=leE_leB (Cy h) b
def DN(ik:IntKind):Arg Int where
 enc:=.int ik
 dec x:=oB (rI ik x) λa=>some (True,a)
 ok x p a h _:=by
  obtain⟨b,h1,h2⟩:=gQ h;cases h2;exact L8 (vX h1) (by intro l;simp)
def VI:Arg Bool where
 enc:=.bool
 dec x:=oB (rB x) λa=>some (True,a)
 ok x p a h _:=by
  obtain⟨b,h1,h2⟩:=gQ h;cases h2;exact L8 (IC h1).1 (by intro l;simp)
theorem oX:∀{g:List ar}{b:List SV},aV g=some b->g=b.map .s
 |[],b,h=>by simp[aV]at h;subst h;rfl
 |.s v::r,b,h=>by
  simp only[aV,Jp]at h;obtain⟨c,d,rfl⟩:=h;simp[oX d]
 |.a .. ::_,b,h=>by simp[aV]at h
def argA{α:Type}(C:Ou α):Arg α where
 enc a:=.agg ((C.enc a).map .s)
 dec x:=match x with
  |.agg g=>oB (aV g) λcs=>oB (C.dec cs) λa=>some (C.ak cs,a)
  |_=>none
 ok x p a h hp:=by
  split at h
  case h_2=>cases h
  obtain⟨cs,h1,h⟩:=gQ h;obtain⟨b,h2,h⟩:=gQ h;cases h;rw[oX h1];exact z4 (C.ok _ _ h2 hp)
def Av{α:Type}(C:Ou α)(l:List α):SV:=.bF C.n l.length λi=>C.enc (l.getD i C.qW)
def zN{α:Type}(C:Ou α):Arg (List α) where
 enc:=Av C
 dec x:=match x with
  |.bF es n f=>(match Nat.beq es C.n with
   |true=>some (HB C n f,ah C n f)
   |false=>none)
  |.aq=>some (True,[])
  |_=>none
 ok x p a h hp:=by
  split at h
  . rename_i es n f;split at h
    case h_2=>cases h
    rename_i he;have he:=Jd he;cases h;refine aL.2 ⟨by rw[he];exact Yz _,(jH n f).symm,λi hi=>?_⟩;obtain⟨b,hb⟩:=Qi.1 (hp i hi).1;have:=C.ok _ _ hb (hp i hi).2;simp only[um hi,hb];exact this
  . cases h;exact rfl
  . cases h
structure iR (α : Type) where
 n : Nat
 enc : α -> List SV
 dec : List SV -> Option (Prop × α)
 ok : SX n dec enc
def iR.nil:iR Unit where
 n:=0
 enc _:=[]
 dec:=λ|[]=>some (True,())|_=>none
 ok l p a h _:=by dsimp only at h;split at h<;>cases h;exact⟨trivial,rfl⟩
def iR.one{α:Type}(A:Arg α):iR α where
 n:=1
 enc a:=[A.enc a]
 dec:=λ|[x]=>A.dec x|_=>none
 ok l p a h hp:=by
  dsimp only at h;split at h
  . exact⟨⟨A.ok _ _ _ h hp,trivial⟩,rfl⟩
  . cases h
def iR.cons{α β:Type}(A:Arg α)(S:iR β):iR (α×β) where
 n:=S.n+1
 enc a:=A.enc a.1::S.enc a.2
 dec:=λ|x::r=>(match A.dec x with
  |some (p,a)=>(match S.dec r with
   |some (q,b)=>some (p/\q,(a,b))
   |none=>none)
  |none=>none)|_=>none
 ok l p a h hp:=by
  dsimp only at h;split at h
  case h_2=>cases h
  split at h
  case h_2=>cases h
  rename_i h1;split at h
  case h_2=>cases h
  rename_i h2;cases h;obtain⟨g1,g2⟩:=S.ok _ _ _ h2 hp.2;exact⟨⟨A.ok _ _ _ h1 hp.1,g1⟩,by simp[g2]⟩
def BX(s:bg)(b:Nat):Nat->Nat->(List SV->Prop)->Prop
 |_,0,k=>k []
 |q,n+1,k=>Ao s (.sg b q) λx=>BX s b (q+1) n λr=>k (x::r)
theorem xO{s:bg}{b:Nat}:∀{n q:Nat}{k:List SV->Prop},BX s b q n k->∃l,k l
 |0,_,_,h=>⟨_,h⟩
 |_+1,_,_,h=>by obtain⟨x,h⟩:=rj h;obtain⟨r,h⟩:=xO h;exact⟨_,h⟩
def Port.cod{α:Type}(C:Ou α)(id q:Nat):Port where
 T:=α
 rd s k:=BX s id q C.n λl=>match C.dec l with
  |some a=>k a
  |none=>False
 ws _ a:=bs id q ((C.enc a).map .s)
 all k:=∀a,k a
 ok s k h:=by
  obtain⟨l,h⟩:=xO h;split at h
  . exact⟨_,h⟩
  . exact h.elim
 oT k h:=h
def Port.iQ{α:Type}(C:Ou α)(n id q:Nat):Port where
 T:=List α
 rd s k:=match s.get (.sg id q)with|.s (.a _ _ f)=>k (ah C n f)|_=>False
 ws _ l:=[(.sg id q,.s (.a n C.n λj=>C.enc (l.getD j C.qW)))]
 all k:=∀l,k l
 ok s k h:=by
  split at h
  . exact⟨_,h⟩
  . exact h.elim
 oT k h:=h
def Port.ah{α:Type}(C:Ou α)(id:Nat)(e:TypeId)(at_:List Loc):Port where
 T:=List α
 rd s k:=match s.get (.sg id 0)with|.s (.a n _ f)=>k (Sx.ah C n f)|_=>k []
 ws s l:=match s.get (.mt id)with
  |.m (some m)=>(.sg id 0,.s (.a l.length C.n λj=>C.enc (l.getD j C.qW)))::at_.map λa=>(a,P2 a (.sl id m.aD 0 l.length))
  |_=>(.mt id,.m (some ⟨0,false,true,some e,1,C.n,[]⟩))::(.sg id 0,.s (.a l.length C.n λj=>C.enc (l.getD j C.qW)))::at_.map λa=>(a,P2 a (.sl id 0 0 l.length))
 all k:=∀l,k l
 ok s k h:=by
  split at h
  . exact⟨_,h⟩
  . exact⟨_,h⟩
 oT k h:=h
def Port.rosL{α:Type}(C:Ou α)(l:Loc):Port where
 T:=List α
 rd s k:=Ao s l λ|.bF _ n f=>k (Sx.ah C n f)|.aq=>k []|_=>False
 ws _ x:=[(l,P2 l (Av C x))]
 all k:=∀l,k l
 ok s k h:=by
  obtain⟨x,h⟩:=rj h;split at h
  . exact⟨_,h⟩
  . exact⟨_,h⟩
  . exact h.elim
 oT k h:=h
def Port.fogT(ts:List Nat):Port where
 T:=Unit
 rd _ k:=k ()
 ws _ _:=ts.map λt=>(.tm t,.v .any)
 all k:=k ()
 ok _ _ h:=⟨(),h⟩
 oT _ h _:=h
def Port.list:List Port->Port
 |[]=>.unit
 |[p]=>p
 |p::r=>.pair p (.list r)
end Go.Sx
namespace Go.Sx
open Go Go.RowKit
variable [bW]
theorem kD.one{P:Program}{t:TypeId}{c:List TypeId}{d:List SV}{e:List CS}{agg:Bool}(h:kD P (t::c) d)(m:shapeOf P 9 t=some e)(o:bZ P t=some agg):∃b r,HasKL e b/\d=ML agg b::r/\kD P c r:=by
 obtain⟨p,i,b,r,j,k,q,u,w⟩:=h;rw[m]at j;rw[o]at k;cases j;cases k;exact⟨b,r,q,u,w⟩
section
variable {P : Program} {t : TypeId} {ts : List TypeId} {xs : List SV} {α : Type} {C : Ou α} {ks : List CS} {wf : α -> Prop}
theorem wu{b:CS}(h:kD P (t::ts) xs)(d:shapeOf P 9 t=some [b])(e:bZ P t=some false):∃x r,xs=x::r/\HasK b x/\kD P ts r:=by
 obtain⟨i,r,c,j,k⟩:=h.one d e;simp only[HasKL]at c;obtain⟨x,q,rfl,m,rfl⟩:=c;exact⟨x,r,j,m,k⟩
theorem open_int{ik:IntKind}(h:kD P (t::ts) xs)(c:shapeOf P 9 t=some [.int ik])(d:bZ P t=some false):∃n r,xs=.int ik n::r/\(Lit.int ik n).wf=true/\kD P ts r:=by
 obtain⟨x,r,e,b,i⟩:=wu h c d;simp only[HasK]at b;obtain⟨n,rfl,j⟩:=b;exact⟨n,r,e,j,i⟩
end
end Go.Sx
