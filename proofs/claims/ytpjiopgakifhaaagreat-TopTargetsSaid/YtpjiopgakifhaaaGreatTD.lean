import Derived.Test.YtpjiopgakifhaaaGreatTC
import Derived.Laws.Sem
import Derived.Deep.LoopGhost
import Derived.Scope
import Derived.ProofKit
import Derived.OpenShut
import Derived.ShutString
import Derived.ChangeOld
import Derived.Below
set_option linter.unusedSectionVars false
set_option linter.unusedSimpArgs false
set_option linter.unusedVariables false
set_option maxRecDepth 100000
namespace Go.Sx
open Go Go.RowKit
variable [bW]
def pg (x y:SV):Prop:=match x,y with
 |_, .any=>True
 | .bool b, .bool b'=>b=b'
 | .tt, .bool b=>b=true
 | .ff, .bool b=>b=false
 | .bool b, .tt=>b=true
 | .bool b, .ff=>b=false
 | .tt, .tt=>True
 | .ff, .ff=>True
 | .int k n, .int k' n'=>jU (decide (k=k')) (n=n')
 | .str s, .str s'=>s=s'
 | .aq, .aq=>True
 | .emp, .emp=>True
 |x, .DG=>jU (fM x) True
 |_,_=>False
def Im :List SV->List SV->Prop
 |[],[]=>True
 |x::r,y::r'=>pg x y/\Im r r'
 |_,_=>False
def Dt (x y:SV):Prop:=match x,y with
 | .aI es len f, .aI es' len' f'=>jU (Nat.beq es es') (len=len'/\ ∀i,i<len->Im (f i) (f' i))
 | .aq, .aI _ len _=>len=0
 |x,y=>pg x y
def BE :List SV->List SV->Prop
 |[],[]=>True
 |x::r,y::r'=>Dt x y/\BE r r'
 |_,_=>False
def xC (x y:SV):Prop:=match x,y with
 | .aI es len f, .aI es' len' f'=>jU (Nat.beq es es') (len=len'/\ ∀i,i<len->BE (f i) (f' i))
 | .aq, .aI _ len _=>len=0
 |x,y=>pg x y
def oP :List SV->List SV->Prop
 |[],[]=>True
 |x::r,y::r'=>xC x y/\oP r r'
 |_,_=>False
def DM (x y:SV):Prop:=match x,y with
 | .aI es len f, .aI es' len' f'=>jU (Nat.beq es es') (len=len'/\ ∀i,i<len->oP (f i) (f' i))
 | .aq, .aI _ len _=>len=0
 |x,y=>pg x y
def bK :List SV->List SV->Prop
 |[],[]=>True
 |x::r,y::r'=>DM x y/\bK r r'
 |_,_=>False
abbrev KF :=Nat->Option (Nat×Nat)
abbrev NF :=Nat->Option Nat
def NZ (o:Option (Nat×Nat)) (v v':Nat):Bool:=match o with
 |some (a,b)=>Nat.beq a v&&Nat.beq b v'
 |none=>false
def Vl (o:Option Nat) (v:Nat):Bool:=match o with
 |some a=>Nat.beq a v
 |none=>false
def JW (kp:KF) (nl:NF) (x y:SV):Prop:=match x,y with
 | .ptr id q, .ptr id' q'=>jU (NZ (kp id) 0 0&&Nat.beq id id'&&Nat.beq q q') True
 | .su id v q i j, .su id' v' q' i' j'=>jU (NZ (kp id) v v'&&Nat.beq id id'&&Nat.beq q q'&&Nat.beq j j') (i=i')
 | .sl id v off len, .sl id' v' off' len'=>jU (NZ (kp id) v v'&&Nat.beq id id') (off=off'/\len=len')
 | .aq, .sl id v off len=>jU (Vl (nl id) v) (off=0/\len=0)
 | .aq, .aI _ len _=>len=0
 | .aI es len f, .aI es' len' f'=>jU (Nat.beq es es') (len=len'/\ ∀i,i<len->bK (f i) (f' i))
 | .rA es len f i j, .rA es' len' f' i' j'=>jU (Nat.beq es es'&&Nat.beq j j') (len=len'/\i=i'/\ ∀i,i<len->bK (f i) (f' i))
 |x,y=>DM x y
def LV (kp:KF) (nl:NF):List SV->List SV->Prop
 |[],[]=>True
 |x::r,y::r'=>JW kp nl x y/\LV kp nl r r'
 |_,_=>False
def BG (kp:KF) (nl:NF) (x y:ar):Prop:=match x,y with
 | .s x, .s y=>JW kp nl x y
 | .a n es f, .a n' es' f'=>n=n'/\es=es'/\ ∀i,i<n->LV kp nl (f i) (f' i)
 |_,_=>False
def mA (kp:KF) (nl:NF):List ar->List ar->Prop
 |[],[]=>True
 |x::r,y::r'=>BG kp nl x y/\mA kp nl r r'
 |_,_=>False
def KY (kp:KF) (nl:NF) (x y:SV):Prop:=match x,y with
 | .agg l, .agg l'=>mA kp nl l l'
 |x,y=>JW kp nl x y
def uP (kp:KF) (nl:NF):List SV->List SV->Prop
 |[],[]=>True
 |x::r,y::r'=>KY kp nl x y/\uP kp nl r r'
 |_,_=>False
def Vh (kp:KF) (nl:NF) (x y:SV):Prop:=match x,y with
 | .bp l, .bp l'=>uP kp nl l l'
 | .fn f a b, .fn f' a' b'=>f=f'/\uP kp nl a a'/\uP kp nl b b'
 |x,y=>KY kp nl x y
structure Kp (own own' : Own) (kp : KF) (nl : NF) : Prop where
 kept : ∀ id a b, kp id = some (a, b) -> ∀ x, own.env id a = some x -> own'.env id b = some x /\ own'.cap id b = own.cap id a /\ (∀ q, own'.st id q = own.st id q) /\ ∀ q, own'.es id q = own.es id q
 nil : ∀ id v, nl id = some v -> own'.env id v = some none
theorem Kp.none (own own':Own):Kp own own' (fun _=>Option.none) (fun _=>Option.none):=⟨(fun _ _ _ h=>by cases h),(fun _ _ h=>by cases h)⟩
section
variable {ro : RO} {own own' : Own} {kp : KF} {nl : NF} {v : Value}
theorem Dy {o:Option (Nat×Nat)} {v v':Nat} (h:NZ o v v'=true):o=some (v,v'):=by
 unfold NZ at h;split at h
 . simp only [J2,Kq]at h;rw [h.1,h.2]
 . cases h
theorem QD {o:Option Nat} {v:Nat} (h:Vl o v=true):o=some v:=by
 unfold Vl at h;split at h
 . simp only [Kq]at h;rw [h]
 . cases h
theorem tL {x y:SV} (h:pg x y) (hr:Rel ro own x v):Rel ro own' y v:=by
 unfold pg at h;split at h
 . exact .any _ _
 . subst h;cases hr;exact .bool _ _
 . subst h;cases hr;exact .bool _ _
 . subst h;cases hr;exact .bool _ _
 . subst h;cases hr;exact .tt _
 . subst h;cases hr;exact .ff _
 . cases hr;exact .tt _
 . cases hr;exact .ff _
 . rw [aL,decide_eq_true_eq]at h;obtain⟨rfl,rfl⟩:=h;cases hr;exact .int _ _ _
 . subst h;cases hr;exact .str _ _
 . cases hr;exact .aq _
 . cases hr;exact .emp _ _
 . exact .DG _ _ (gk hr (EF (aL.1 h).1))
 . exact h.elim
theorem xo : ∀{l l':List SV},Im l l'->l.length=l'.length/\ ∀(j:Nat) (y:SV),l'[j]?=some y-> ∃x,l[j]?=some x/\pg x y
 |[],[],_=>⟨rfl,by simp⟩
 |x::r,y::r',h=>by
  have:=xo h.2;refine⟨by simp [this.1],fun j z hz=> ?_⟩;cases j with
  |zero=>simp at hz;subst hz;exact⟨x,rfl,h.1⟩
  |succ j=>simp at hz;obtain⟨u,h1,h2⟩:=this.2 j z hz;exact⟨u,by simpa using h1,h2⟩
 |[],_::_,h=>h.elim
 |_::_,[],h=>h.elim
theorem O1 {x y:SV} (h:Dt x y) (hr:Rel ro own x v):Rel ro own' y v:=by
 unfold Dt at h;split at h
 . rw [aL,Kq]at h;obtain⟨rfl,rfl,hf⟩:=h;cases hr with
   |fe _ _ _ _ a cap h0=>exact .fe _ _ _ _ _ _ h0
   |aI _ _ _ _ b k0 cap vs hc hl hm h=>
    exact .aI _ _ _ _ _ _ _ vs hc (fun i hi=>by rw [<-(xo (hf i hi)).1];exact hl i hi) hm fun i j sv hi e=>by
     obtain⟨x,h1,h2⟩:=(xo (hf i hi)).2 j sv e;exact tL h2 (h i j x hi h1)
 . subst h;cases hr;exact .fe _ _ _ _ _ _ rfl
 . exact tL h hr
theorem xI : ∀{l l':List SV},BE l l'->l.length=l'.length/\ ∀(j:Nat) (y:SV),l'[j]?=some y-> ∃x,l[j]?=some x/\Dt x y
 |[],[],_=>⟨rfl,by simp⟩
 |x::r,y::r',h=>by
  have:=xI h.2;refine⟨by simp [this.1],fun j z hz=> ?_⟩;cases j with
  |zero=>simp at hz;subst hz;exact⟨x,rfl,h.1⟩
  |succ j=>simp at hz;obtain⟨u,h1,h2⟩:=this.2 j z hz;exact⟨u,by simpa using h1,h2⟩
 |[],_::_,h=>h.elim
 |_::_,[],h=>h.elim
theorem NJ {x y:SV} (h:xC x y) (hr:Rel ro own x v):Rel ro own' y v:=by
 unfold xC at h;split at h
 . rw [aL,Kq]at h;obtain⟨rfl,rfl,hf⟩:=h;cases hr with
   |fe _ _ _ _ a cap h0=>exact .fe _ _ _ _ _ _ h0
   |aI _ _ _ _ b k0 cap vs hc hl hm h=>
    exact .aI _ _ _ _ _ _ _ vs hc (fun i hi=>by rw [<-(xI (hf i hi)).1];exact hl i hi) hm fun i j sv hi e=>by
     obtain⟨x,h1,h2⟩:=(xI (hf i hi)).2 j sv e;exact O1 h2 (h i j x hi h1)
 . subst h;cases hr;exact .fe _ _ _ _ _ _ rfl
 . exact tL h hr
theorem zm : ∀{l l':List SV},oP l l'->l.length=l'.length/\ ∀(j:Nat) (y:SV),l'[j]?=some y-> ∃x,l[j]?=some x/\xC x y
 |[],[],_=>⟨rfl,by simp⟩
 |x::r,y::r',h=>by
  have:=zm h.2;refine⟨by simp [this.1],fun j z hz=> ?_⟩;cases j with
  |zero=>simp at hz;subst hz;exact⟨x,rfl,h.1⟩
  |succ j=>simp at hz;obtain⟨u,h1,h2⟩:=this.2 j z hz;exact⟨u,by simpa using h1,h2⟩
 |[],_::_,h=>h.elim
 |_::_,[],h=>h.elim
theorem Dj {x y:SV} (h:DM x y) (hr:Rel ro own x v):Rel ro own' y v:=by
 unfold DM at h;split at h
 . rw [aL,Kq]at h;obtain⟨rfl,rfl,hf⟩:=h;cases hr with
   |fe _ _ _ _ a cap h0=>exact .fe _ _ _ _ _ _ h0
   |aI _ _ _ _ b k0 cap vs hc hl hm h=>
    exact .aI _ _ _ _ _ _ _ vs hc (fun i hi=>by rw [<-(zm (hf i hi)).1];exact hl i hi) hm fun i j sv hi e=>by
     obtain⟨x,h1,h2⟩:=(zm (hf i hi)).2 j sv e;exact NJ h2 (h i j x hi h1)
 . subst h;cases hr;exact .fe _ _ _ _ _ _ rfl
 . exact tL h hr
theorem tM : ∀{l l':List SV},bK l l'->l.length=l'.length/\ ∀(j:Nat) (y:SV),l'[j]?=some y-> ∃x,l[j]?=some x/\DM x y
 |[],[],_=>⟨rfl,by simp⟩
 |x::r,y::r',h=>by
  have:=tM h.2;refine⟨by simp [this.1],fun j z hz=> ?_⟩;cases j with
  |zero=>simp at hz;subst hz;exact⟨x,rfl,h.1⟩
  |succ j=>simp at hz;obtain⟨u,h1,h2⟩:=this.2 j z hz;exact⟨u,by simpa using h1,h2⟩
 |[],_::_,h=>h.elim
 |_::_,[],h=>h.elim
theorem uN (K:Kp own own' kp nl) {x y:SV} (h:JW kp nl x y) (hr:Rel ro own x v):Rel ro own' y v:=by
 unfold JW at h;split at h
 . simp only [aL,J2,Kq]at h;obtain⟨⟨⟨h1,rfl⟩,rfl⟩,_⟩:=h;have h1:=Dy h1;cases hr with
   |ptr _ _ _ b hb=>
    obtain⟨e1,_,e3,_⟩:=K.kept _ _ _ h1 _ hb;rw [<-e3];exact .ptr _ _ _ _ e1
 . simp only [aL,J2,Kq]at h;obtain⟨⟨⟨⟨h1,rfl⟩,rfl⟩,rfl⟩,rfl⟩:=h;have h1:=Dy h1;cases hr with
   |su _ _ _ _ _ _ b hb=>
    obtain⟨e1,_,e3,e4⟩:=K.kept _ _ _ h1 _ hb;rw [<-e3,<-e4];exact .su _ _ _ _ _ _ _ e1
 . simp only [aL,J2,Kq]at h;obtain⟨⟨h1,rfl⟩,rfl,rfl⟩:=h;have h1:=Dy h1;cases hr with
   |sl _ _ _ _ _ b hb hc=>
    obtain⟨e1,e2,_,e4⟩:=K.kept _ _ _ h1 _ hb;rw [<-e2,<-e4];exact .sl _ _ _ _ _ _ e1 (by rw [e2];exact hc)
   |Es _ _ _ _ _ hb h3 h4=>
    obtain⟨e1,_,_,_⟩:=K.kept _ _ _ h1 _ hb;exact .Es _ _ _ _ _ e1 h3 h4
 . rw [aL]at h;obtain⟨h1,rfl,rfl⟩:=h;have h1:=QD h1;cases hr;exact .Es _ _ _ _ _ (K.nil _ _ h1) rfl rfl
 . subst h;cases hr;exact .fe _ _ _ _ _ _ rfl
 . rw [aL,Kq]at h;obtain⟨rfl,rfl,hf⟩:=h;cases hr with
   |fe _ _ _ _ a cap h0=>exact .fe _ _ _ _ _ _ h0
   |aI _ _ _ _ b k0 cap vs hc hl hm h=>
    exact .aI _ _ _ _ _ _ _ vs hc (fun i hi=>by rw [<-(tM (hf i hi)).1];exact hl i hi) hm fun i j sv hi e=>by
     obtain⟨x,h1,h2⟩:=(tM (hf i hi)).2 j sv e;exact Dj h2 (h i j x hi h1)
 . simp only [aL,J2,Kq]at h;obtain⟨⟨rfl,rfl⟩,rfl,rfl,hf⟩:=h;cases hr with
   |rA _ _ _ _ _ _ b k0 vs hl hm h hi=>
    exact .rA _ _ _ _ _ _ _ _ vs (fun i hi=>by rw [<-(tM (hf i hi)).1];exact hl i hi) hm (fun i j sv hi e=>by
     obtain⟨x,h1,h2⟩:=(tM (hf i hi)).2 j sv e;exact Dj h2 (h i j x hi h1)) hi
 . exact Dj h hr
theorem CP : ∀{l l':List SV},LV kp nl l l'->l.length=l'.length/\ ∀(j:Nat) (y:SV),l'[j]?=some y-> ∃x,l[j]?=some x/\JW kp nl x y
 |[],[],_=>⟨rfl,by simp⟩
 |x::r,y::r',h=>by
  have:=CP h.2;refine⟨by simp [this.1],fun j z hz=> ?_⟩;cases j with
  |zero=>simp at hz;subst hz;exact⟨x,rfl,h.1⟩
  |succ j=>simp at hz;obtain⟨u,h1,h2⟩:=this.2 j z hz;exact⟨u,by simpa using h1,h2⟩
 |[],_::_,h=>h.elim
 |_::_,[],h=>h.elim
theorem Fo {x y:ar} (h:BG kp nl x y):x.size=y.size/\x.es=y.es/\x.shape=y.shape/\ ∀(k:Nat) (b:SV),y.at k=some b-> ∃a,x.at k=some a/\JW kp nl a b:=by
 unfold BG at h;split at h
 . refine⟨rfl,rfl,rfl,fun k b hb=> ?_⟩;cases k with
   |zero=>simp [ar.at]at hb;subst hb;exact⟨_,rfl,h⟩
   |succ k=>cases hb
 . obtain⟨rfl,rfl,hf⟩:=h;rename_i n es f f';refine⟨rfl,rfl,rfl,fun k b hb=> ?_⟩;simp only [ar.at]at hb⊢;split at hb
   case isFalse=>cases hb
   rename_i hk;rw [if_pos hk];have:k/es<n:=by
    rcases Jw es with h0|h0
    . subst h0;simp at hk
    . rwa [K9 h0]
   exact(CP (hf _ this)).2 _ b hb
 . exact h.elim
theorem kF : ∀{l l':List ar},mA kp nl l l'->l.length=l'.length/\aa l=aa l'/\l.map ar.shape=l'.map ar.shape/\
 (∀q,aa (l.take q)=aa (l'.take q))/\(∀(q:Nat) (y:ar),l'[q]?=some y-> ∃x,l[q]?=some x/\BG kp nl x y)/\ ∀(k:Nat) (b:SV),flat l' k=some b-> ∃a,flat l k=some a/\JW kp nl a b
 |[],[],_=>⟨rfl,rfl,rfl,fun _=>rfl,by simp,fun k b h=>by cases h⟩
 |x::r,y::r',h=>by
  obtain⟨h1,h2,h3,h4,h5,h6⟩:=kF h.2;obtain⟨g1,g2,g3,g4⟩:=Fo h.1;refine⟨by simp [h1],by simp [aa,g1,h2],by simp [g3,h3],fun q=> ?_,fun q z hz=> ?_,fun k b hb=> ?_⟩
  . cases q with
    |zero=>rfl
    |succ q=>simp only [Qu,aa,g1,h4 q]
  . cases q with
    |zero=>simp at hz;subst hz;exact⟨x,rfl,h.1⟩
    |succ q=>simp at hz;obtain⟨u,e1,e2⟩:=h5 q z hz;exact⟨u,by simpa using e1,e2⟩
  . simp only [flat,g1]at hb⊢
    by_cases hk:k<y.size
    . rw [if_pos hk]at hb⊢;exact g4 k b hb
    . rw [if_neg hk]at hb⊢;exact h6 _ b hb
 |[],_::_,h=>h.elim
 |_::_,[],h=>h.elim
theorem nC (K:Kp own own' kp nl) {x y:SV} (h:KY kp nl x y) (hr:Rel ro own x v):Rel ro own' y v:=by
 unfold KY at h;split at h
 . obtain⟨_,h2,_,_,_,h6⟩:=kF h;obtain⟨cs,rfl,hs,hc⟩:=cU hr;refine .agg _ _ _ (by rw [hs,h2]) fun k sv hk=> ?_
   obtain⟨a,e1,e2⟩:=h6 k sv hk;exact uN K e2 (hc k a e1)
 . exact uN K h hr
theorem tW : ∀{l l':List SV},uP kp nl l l'->l.length=l'.length/\ ∀(j:Nat) (y:SV),l'[j]?=some y-> ∃x,l[j]?=some x/\KY kp nl x y
 |[],[],_=>⟨rfl,by simp⟩
 |x::r,y::r',h=>by
  have:=tW h.2;refine⟨by simp [this.1],fun j z hz=> ?_⟩;cases j with
  |zero=>simp at hz;subst hz;exact⟨x,rfl,h.1⟩
  |succ j=>simp at hz;obtain⟨u,h1,h2⟩:=this.2 j z hz;exact⟨u,by simpa using h1,h2⟩
 |[],_::_,h=>h.elim
 |_::_,[],h=>h.elim
theorem C3 (K:Kp own own' kp nl) {x y:SV} (h:Vh kp nl x y) (hr:Rel ro own x v):Rel ro own' y v:=by
 unfold Vh at h;split at h
 . obtain⟨h1,h2⟩:=tW h;cases hr with
   |bp _ _ vs hs hv=>
    refine .bp _ _ _ (by rw [hs,h1]) fun k sv hk=> ?_
    obtain⟨a,e1,e2⟩:=h2 k sv hk;exact nC K e2 (hv k a e1)
 . obtain⟨rfl,ha,hb⟩:=h;obtain⟨a1,a2⟩:=tW ha;obtain⟨b1,b2⟩:=tW hb;cases hr with
   |fn _ _ _ _ va vb h1 h2 h3 h4=>
    refine .fn _ _ _ _ _ _ (by rw [h1,a1]) (by rw [h2,b1]) (fun k sv hk=> ?_) (fun k sv hk=> ?_)
    . obtain⟨a,e1,e2⟩:=a2 k sv hk;exact nC K e2 (h3 k a e1)
    . obtain⟨a,e1,e2⟩:=b2 k sv hk;exact nC K e2 (h4 k a e1)
 . exact nC K h hr
end
def GX (m m':lZ):Bool:=
 m.row==m'.row&&m.gN==m'.gN&&(match m.app,m'.app with|some t,some t'=>Nat.beq t t'|none,none=>true|_,_=>false)&&Nat.beq m.ns m'.ns&&Nat.beq m.es m'.es&&(m.row||(Nat.beq m.aD 0&&Nat.beq m'.aD 0))
def eK (s:bg) (id:Nat):Option Nat:=(s.en[id]?).map (·.1.aD)
def RD (s s':bg):KF:=fun id=>match eK s id,eK s' id with
 |some a,some b=>some (a,b)
 |_,_=>none
def Rc (s s':bg):NF:=fun id=>match eK s id,eK s' id with
 |none,some b=>some b
 |_,_=>none
def Pk (kp:KF) (nl:NF):List SV->List SV->Prop
 |_,[]=>True
 |x::r,y::r'=>Vh kp nl x y/\Pk kp nl r r'
 |[], .any::r'=>Pk kp nl [] r'
 |[],_::_=>False
def DS (kp:KF) (nl:NF):List (lZ×List ar)->List (lZ×List ar)->Prop
 |_,[]=>True
 |(m,l)::r,(m',l')::r'=>match GX m m'&&Nat.beq l.length m.ns&&Nat.beq l'.length m'.ns with
  |true=>(match m.gN with
   |true=>m.sh=m'.sh/\mA (fun _=>none) (fun _=>none) l l'/\DS kp nl r r'
   |false=>m.sh=m'.sh/\mA kp nl l l'/\DS kp nl r r')
  |false=>False
 |[],(m',l')::r'=>match m'.row&& !m'.gN&&Nat.beq m'.ns 1,l' with
  |true,[.a n es _]=>n=0/\es=m'.es/\DS kp nl [] r'
  |_,_=>False
def Ma (s s':bg):Prop:=Pk (RD s s') (Rc s s') s.tm s'.tm/\DS (RD s s') (Rc s s') s.en s'.en
theorem Cs {kp:KF} {nl:NF}: ∀{l l':List SV},Pk kp nl l l'-> ∀(t:Nat) (y:SV),l'[t]?=some y->y= .any\/ ∃x,l[t]?=some x/\Vh kp nl x y
 |_,[],_,t,y,h=>by simp at h
 |x::r,y::r',h,t,z,hz=>by
  cases t with
  |zero=>simp at hz;subst hz;exact .inr ⟨x,rfl,h.1⟩
  |succ t=>simp at hz;simpa using Cs h.2 t z hz
 |[],y::r',h,t,z,hz=>by
  cases y<;>first|exact h.elim|skip
  cases t with
  |zero=>simp at hz;exact .inl hz.symm
  |succ t=>
   simp at hz;simp only [Pk]at h;exact Cs (l:=[]) h t z hz
structure WH (kp : KF) (nl : NF) (m m' : lZ) (l l' : List ar) : Prop where
 row : m.row = m'.row
 gN : m.gN = m'.gN
 app : m.app = m'.app
 ns : m.ns = m'.ns
 es : m.es = m'.es
 sh : m.sh = m'.sh
 zero : m.row = false -> m.aD = 0 /\ m'.aD = 0
 len : l.length = m.ns
 az : mA (if m.gN then fun _ => none else kp) (if m.gN then fun _ => none else nl) l l'
theorem EI {m m':lZ} (h:GX m m'=true):m.row=m'.row/\m.gN=m'.gN/\m.app=m'.app/\m.ns=m'.ns/\m.es=m'.es/\(m.row=false->m.aD=0/\m'.aD=0):=by
 simp only [GX,J2,beq_iff_eq,Kq,Qz]at h;obtain⟨⟨⟨⟨⟨h1,h2⟩,h3⟩,h4⟩,h5⟩,h6⟩:=h;refine⟨h1,h2,?_,h4,h5,fun hr=>h6.resolve_left (by simp [hr])⟩;split at h3
 . rename_i t t' e1 e2;rw [e1,e2,Jd h3]
 . rename_i e1 e2;rw [e1,e2]
 . cases h3
theorem tX {kp:KF} {nl:NF}: ∀{e e':List (lZ×List ar)},DS kp nl e e'-> ∀(id:Nat) (m':lZ) (l':List ar),e'[id]?=some (m',l')->(∃m l,e[id]?=some (m,l)/\WH kp nl m m' l l')\/
 (e[id]?=none/\m'.row=true/\m'.ns=1/\ ∃f,l'=[.a 0 m'.es f])
 |_,[],_,id,m',l',h=>by simp at h
 |(m,l)::r,(m',l')::r',h,id,m1,l1,h1=>by
  simp only [DS]at h;split at h
  case h_2=>exact h.elim
  rename_i hc;simp only [J2,Kq]at hc;obtain⟨⟨hc,hl1⟩,hl2⟩:=hc;obtain⟨q1,q2,q3,q4,q5,q6⟩:=EI hc;have:(m.sh=m'.sh/\mA (if m.gN then fun _=>none else kp) (if m.gN then fun _=>none else nl) l l')/\DS kp nl r r':=by
   split at h
   . rename_i hz;simp only [hz,if_true];exact⟨⟨h.1,h.2.1⟩,h.2.2⟩
   . rename_i hz;simp only [hz,Jr,if_false];exact⟨⟨h.1,h.2.1⟩,h.2.2⟩
  cases id with
  |zero=>
   simp at h1;obtain⟨rfl,rfl⟩:=h1;exact .inl ⟨m,l,rfl,q1,q2,q3,q4,q5,this.1.1,q6,hl1,this.1.2⟩
  |succ id=>simp at h1;simpa using tX this.2 id m1 l1 h1
 |[],(m',l')::r',h,id,m1,l1,h1=>by
  simp only [DS]at h;split at h
  case h_2=>exact h.elim
  rename_i hc;simp only [J2,Kq]at hc;obtain⟨h2,h3,h4⟩:=h;subst h2 h3;cases id with
  |zero=>
   simp at h1;obtain⟨rfl,rfl⟩:=h1;exact .inr ⟨rfl,hc.1.1,hc.2,_,rfl⟩
  |succ id=>
   simp at h1;have:=tX (e:=[]) h4 id m1 l1 h1;simpa using this
theorem yW {s:bg} {id:Nat} {m:lZ} {l:List ar} (h:s.en[id]?=some (m,l)):St.az s.get id l.length=l:=by
 apply Xc;intro q
 by_cases hq:q<l.length
 . rw [St.bL _ _ _ _ hq,J4 hq];simp [St.uC,bg.get,h,hq]
 . rw [J7 (by rw [St.aU];omega),J7 (by omega)]
theorem sa {s:bg} {id:Nat} {m:lZ} (h:s.get (.mt id)= .m (some m)): ∃l,s.en[id]?=some (m,l):=by
 simp only [bg.get,Item.m.injEq,Jp]at h;obtain⟨⟨m',l⟩,h1,h2⟩:=h;simp at h2;subst h2;exact⟨l,h1⟩
theorem DB {E:Env} (hK: ∀o r,E.K o r) {s s':bg} {w:World} {a:Act} (h:Ma s s') (hs:dL E s.get w a):dL E s'.get w a:=by
 obtain⟨ro,own,hg⟩:=hs;obtain⟨htm,hen⟩:=h
 let own':Own:={
  env:=fun id v=>if eK s' id=some v then(match eK s id with|some x=>own.env id x|none=>some none)else none
  cap:=fun id _=>match eK s id with|some x=>own.cap id x|none=>0
  st:=fun id q=>match eK s id with|some _=>own.st id q|none=>0
  es:=fun id q=>match eK s id with|some _=>own.es id q|none=>((s'.en[id]?).map (·.1.es)).getD 0}
 have K:Kp own own' (RD s s') (Rc s s'):=by
  refine⟨fun id x y hk z hz=> ?_,fun id v hn=> ?_⟩
  . unfold RD at hk;split at hk
    case h_2=>cases hk
    rename_i x' y' e1 e2;simp at hk;obtain⟨rfl,rfl⟩:=hk;simp [own',e1,e2,hz]
  . unfold Rc at hn;split at hn
    case h_2=>cases hn
    rename_i y' e1 e2;simp at hn;subst hn;simp [own',e1,e2]
 have ver': ∀{id m'},s'.get (.mt id)= .m (some m')->eK s' id=some m'.aD:=fun h=>by
  obtain⟨l,hl⟩:=sa h;simp [eK,hl]
 have hmp:vG E.B ro own' s'.get w:=by
  have no: ∀id m n e f,s'.get (.mt id)= .m (some m)->cz m=true->s'.get (.sg id 0)≠ .s (.a n e f):=by
   intro id m n e f h1 h2;obtain⟨l',hl'⟩:=sa h1;have hns:m.ns=0:=by simp [cz]at h2;exact h2.2
   rcases tX hen id m l' hl' with⟨m0,l,hl,kk⟩|⟨_,hrow,_⟩
   . have hlen:l'.length=0:=by have:=kk.len;have:=kk.ns;have:=(kF kk.az).1;omega
     have:l'=[]:=Kr hlen;subst this;simp [bg.get,hl']
   . simp [cz,hrow]at h2
  exact⟨fun id m n e f h1 h2 h3=>absurd h3 (no id m n e f h1 h2),fun id id' m m' b n e f n' e' f' h1 h2 h3 h4 g1 _ _ _=>absurd g1 (no id m n e f h1 h3)⟩
 refine⟨ro,own',{below:=hg.below,base:=hg.base,defs:=hg.defs,size:=hg.size,tm:= ?_,cJ:=hg.cJ,ee:=hg.ee,gK:= ?_,fr:= ?_,mY:= ?_,inj:= ?_,kk:=hK _ _,mp:=hmp}⟩
 . intro t sv ht;simp only [bg.get,Item.v.injEq]at ht;cases hy:s'.tm[t]? with
   |none=>
    rw [J0,hy]at ht;simp at ht;subst ht;exact .any _ _
   |some y=>
    rw [J0,hy]at ht;simp at ht;subst ht;rcases Cs htm t y hy with rfl|⟨x,hx,hle⟩
    . exact .any _ _
    . exact C3 K hle (hg.tm t x (by simp [bg.get,hx]))
 . intro id m' hm';obtain⟨l',hl'⟩:=sa hm';rcases tX hen id m' l' hl' with⟨m,l,hl,kk⟩|⟨hnone,hrow,hns,f,rfl⟩
   . have hm:s.get (.mt id)= .m (some m):=by simp [bg.get,hl]
     have he:=hg.gK id m hm;have e1:St.az s.get id m.ns=l:=by rw [<-kk.len];exact yW hl
     obtain⟨p1,p2,p3,p4,p5,p6⟩:=kF kk.az;have e2:St.az s'.get id m'.ns=l':=by rw [<-kk.ns,<-kk.len,p1];exact yW hl'
     have v1:eK s id=some m.aD:=by simp [eK,hl]
     have v2:eK s' id=some m'.aD:=by simp [eK,hl']
     rw [e1]at he;rw [e2];have henv:own'.env id m'.aD=own.env id m.aD:=by simp [own',v1,v2]
     have hcap:own'.cap id m'.aD=own.cap id m.aD:=by simp [own',v1]
     have hst:own'.st id=own.st id:=by funext q;simp [own',v1]
     have hes:own'.es id=own.es id:=by funext q;simp [own',v1]
     have one: ∀{n es f},l=[.a n es f]-> ∃f',l'=[.a n es f']:=by
      intro n es f hl0;subst hl0;have hs0:=kk.az
      match l',hs0 with
      |[.a n' es' f'],h0=>obtain⟨⟨rfl,rfl,_⟩,_⟩:=h0;exact⟨f',rfl⟩
     constructor
     . intro q hq;rw [hst,he.st q (by rw [kk.ns];exact hq),p4 q]
     . intro q x hx;obtain⟨y,hy,hle⟩:=p5 q x hx;rw [hes,he.es q y hy,(Fo hle).2.1]
     . intro hr;rw [<-kk.row]at hr;obtain⟨n,f,h0,h1⟩:=he.row hr;obtain⟨f',h2⟩:=one h0;refine⟨n,f',by rw [h2,kk.es],fun b hb=> ?_⟩;rw [henv]at hb;rw [hcap];exact h1 b hb
     . intro hr;rw [<-kk.row]at hr;exact⟨(kk.zero hr).2,by rw [<-kk.sh,(he.plain hr).2,p3]⟩
     . rw [henv];exact he.there
     . intro hn;rw [henv]at hn;obtain⟨h0,f,h1⟩:=he.nil hn;obtain⟨f',h2⟩:=one h1;exact⟨by rw [<-kk.row];exact h0,f',by rw [h2,kk.es]⟩
     . intro b hb hz;rw [henv]at hb;rw [<-kk.gN]at hz;have hlv:=he.live b hb hz;have hsg:=kk.az;rw [hz]at hsg;simp only [Jr,if_false]at hsg;obtain⟨_,_,_,_,_,p6'⟩:=kF hsg;obtain⟨cs,e,lo,hi,r0,r1,r2,r3,r4,r5,r6⟩:=hlv.body;refine⟨hlv.low,hlv.apart,cs,e,lo,hi,r0,by rw [<-p2];exact r1,fun t ht=> ?_,by rw [<-p2];exact r3,fun k sv hk=> ?_,fun hr=> ?_,fun hr=> ?_⟩
       . rw [hcap];exact r2 t (by rw [kk.app];exact ht)
       . obtain⟨a0,q1,q2⟩:=p6' k sv hk;exact uN K q2 (r4 k a0 q1)
       . rw [<-p2];exact r5 (by rw [kk.row];exact hr)
       . rw [hcap,hes];exact r6 (by rw [kk.row];exact hr)
     . intro b hb hz k hk;rw [henv]at hb;rw [<-kk.gN]at hz;obtain⟨v,h1,h2⟩:=he.dn b hb hz k (by rw [p2];exact hk);have hsg:=kk.az;rw [hz]at hsg;simp only [if_true]at hsg;obtain⟨_,_,_,_,_,p6'⟩:=kF hsg;refine⟨v,h1,fun sv hsv=> ?_⟩;obtain⟨a0,q1,q2⟩:=p6' k sv hsv;exact uN (Kp.none _ _) q2 (h2 a0 q1)
   . have v1:eK s id=none:=by simp [eK,hnone]
     have v2:eK s' id=some m'.aD:=by simp [eK,hl']
     have e2:St.az s'.get id m'.ns=[ar.a 0 m'.es f]:=by rw [hns];exact yW hl'
     have henv:own'.env id m'.aD=some none:=by simp [own',v1,v2]
     rw [e2];constructor
     . intro q hq;have:q=0:=by omega
       subst this;simp [own',v1,aa]
     . intro q x hx;cases q with
       |zero=>simp at hx;subst hx;simp [own',v1,hl',ar.es]
       |succ q=>simp at hx
     . intro _;exact⟨0,f,rfl,fun b hb=>by rw [henv]at hb;cases hb⟩
     . intro hr;rw [hrow]at hr;cases hr
     . exact⟨_,henv⟩
     . intro _;exact⟨hrow,f,rfl⟩
     . intro b hb;rw [henv]at hb;cases hb
     . intro b hb;rw [henv]at hb;cases hb
 . intro id hm aD;have:eK s' id=none:=by
    simp only [bg.get,Item.m.injEq,Option.map_eq_none_iff]at hm;simp [eK,hm]
   simp [own',this]
 . intro id m hm aD hv;have:=ver' hm;simp only [own',this,J3];rw [if_neg (by omega)]
 . intro id id' m m' b hm hm' hz hz' hb hb';have kept: ∀{id m},s'.get (.mt id)= .m (some m)->m.gN=false->own'.env id m.aD=some (some b)-> ∃m0,s.get (.mt id)= .m (some m0)/\m0.gN=false/\own.env id m0.aD=some (some b):=by
    intro id m hm hz hb;obtain⟨l',hl'⟩:=sa hm;have v2:eK s' id=some m.aD:=by simp [eK,hl']
    rcases tX hen id m l' hl' with⟨m0,l,hl,kk⟩|⟨hnone,_⟩
    . have v1:eK s id=some m0.aD:=by simp [eK,hl]
      refine⟨m0,by simp [bg.get,hl],by rw [kk.gN];exact hz,?_⟩;simpa [own',v1,v2]using hb
    . have v1:eK s id=none:=by simp [eK,hnone]
      simp [own',v1,v2]at hb
   obtain⟨m1,a1,a2,a3⟩:=kept hm hz hb;obtain⟨m2,b1,b2,b3⟩:=kept hm' hz' hb';exact hg.inj id id' m1 m2 b a1 b1 a2 b2 a3 b3
end Go.Sx
namespace Go.Sx
open Go Go.RowKit
variable [bW]
section
variable {E : Env} {P : Program} {ro : RO} {own : Own} {s : St} {w : World} {a : Act} {N : Nat}
theorem mf {v0:Value} {d:Option Tmp} {T:TypeId} {A:Addr} {v:Value} {y:SV} (hx:v0= .pointer (some A)) (hrun:(loadVar T A).run P w= .ok v w) (hr:Rel ro own y v)
 {ws} (hk:(bm N d y).ok s ws): ∃A v y,v0= .pointer (some A)/\(loadVar T A).run P w= .ok v w/\Rel ro own y v/\(bm N d y).ok s ws:=⟨A,v,y,hx,hrun,hr,hk⟩
theorem Ml (h:bA E ro own s w a) {x':SV} {v0:Value} {d:Option Tmp} {T:TypeId} (hx:Rel ro own x' v0) {ws} (hk:(x6 P N d T x').ok s ws): ∃A v y,v0= .pointer (some A)/\(loadVar T A).run P w= .ok v w/\Rel ro own y v/\(bm N d y).ok s ws:=by
 unfold x6 at hk;split at hk
 case h_2=>exact hk.elim
 rename_i agg n hT hn;split at hk
 ·
  rename_i id q;obtain⟨b,hb,hv⟩:=rq hx;obtain⟨m,hm,hk⟩:=fG hk;have he:=h.gK id m hm;split at hk
  . exact hk.elim
  rename_i hrow;have hrow:m.row=false:=by simpa using hrow
  obtain⟨hver,hsh⟩:=he.plain hrow;have hb':own.env id m.aD=some (some b):=by rw [hver];exact hb
  cases agg with
  |true=>
   simp only [if_true]at hk;split at hk
   case isFalse=>exact hk.elim
   rename_i hq;have hk:=vg hk;rw [St.BL]at hk;split at hk
   case h_2=>exact hk.elim
   rename_i l' hl';obtain⟨e1,e2,e3⟩:=gW hl';have hst:=he.st q hq;have hcell: ∀k,k<n-> ∃v,w.cell? ⟨b,own.st id q+k,none⟩=some v/\ ∀sv,flat l' k=some sv->Rel ro own sv v:=by
    intro k hkn;obtain⟨v,hv,hr⟩:=h.DR hm hb' (k:=own.st id q+k) (by have:=rM (s.az id m.ns) q;omega);exact⟨v,hv,fun sv hs=>hr sv (by rw [hst,AZ,<-e3 k hkn];exact hs)⟩
   refine mf hv (jP hT hn (vs:=fun k=>(w.cell? ⟨b,own.st id q+k,none⟩).getD undef) fun k hkn=> ?_) (y:= .agg l') ?_ hk
   . obtain⟨v,hv,_⟩:=hcell k hkn;rw [hv];rfl
   . refine .agg _ _ _ (by simp [e1]) fun k sv hs=> ?_
     have hkn:k<n:=by rw [<-e1];exact cK hs
     obtain⟨v,hv,hr⟩:=hcell k hkn;rw [ve n (fun k=>(w.cell? ⟨b,own.st id q+k,none⟩).getD undef) k hkn];simp only [hv];exact hr sv hs
  |false=>
   simp only [Jr,if_false]at hk;obtain⟨y,hy,hk⟩:=lf hk;split at hk
   case h_2=>exact hk.elim
   rename_i u;split at hk
   case isFalse=>exact hk.elim
   rename_i hq;have hseg:(s.az id m.ns)[q]?=some (.s u):=by rw [St.bL _ _ _ _ hq,hy]
   have hf:=tO hseg 0 (by simp [ar.size]);rw [<-he.st q hq]at hf;obtain⟨v,hc,hr⟩:=h.cell hm hb' hf;exact mf hv (jN hT hc) hr hk
 ·
  rename_i id aD q i j;obtain⟨b,hb,hv⟩:=tI hx;obtain⟨m,hm,hk⟩:=fG hk;have he:=h.gK id m hm;split at hk
  case isFalse=>exact hk.elim
  rename_i hvq;obtain⟨hver,hq⟩:=hvq;rw [<-hver]at hb;obtain⟨y,hy,hk⟩:=lf hk;split at hk
  case h_2=>exact hk.elim
  rename_i k es f;obtain⟨hi,hk⟩:=hk;split at hk
  case isFalse=>exact hk.elim
  rename_i hlen;split at hk
  case h_2=>exact hk.elim
  rename_i z hz;have hseg:(s.az id m.ns)[q]?=some (.a k es f):=by rw [St.bL _ _ _ _ hq,hy]
  have hes:own.es id q=es:=by rw [he.es q _ hseg];rfl
  obtain⟨v,hrun,hr⟩:=rb (ro:=ro) (own:=own) (w:=w) hT hn (b:=b) (off:=own.st id q+i*es) hz (fun k' sv hsv=>by
   have hk':k'<es:=by rw [<-hlen];exact(Jb.1 hsv).1
   have hin:i*es+k'<(ar.a k es f).size:=by
    simp only [ar.size];have:(i+1)*es<=k*es:=Jl _ hi;rw [Ji]at this;omega
   have hf:=tO hseg (i*es+k') hin;rw [lM hi hk',hsv,<-he.st q hq]at hf;obtain⟨v,hv,hr⟩:=h.cell hm hb hf;exact⟨v,by rw [Kt];exact hv,hr⟩)
  rw [hes]at hv;exact mf hv hrun hr hk
 ·
  rename_i es len f i j;obtain⟨b,k0,vs,hv,hi,hl,hm,hh⟩:=wT hx;split at hk
  case isFalse=>exact hk.elim
  rename_i hlen;split at hk
  case h_2=>exact hk.elim
  rename_i z hz;obtain⟨v,hrun,hr⟩:=rb (ro:=ro) (own:=own) (w:=w) hT hn (b:=b) (off:=k0+i*es) hz (fun k' sv hsv=>by
   have hk':k'<es:=by rw [<-hlen];exact(Jb.1 hsv).1
   have hin:i*es+k'<len*es:=by
    have:(i+1)*es<=len*es:=Jl _ hi;rw [Ji]at this;omega
   exact⟨vs (i*es+k'),by rw [Kt];exact(h.cJ _ _ _ (hm _ hin)).1,(hh i k' sv hi hsv).own (Own.empty_le _)⟩)
  exact mf hv hrun hr hk
 . exact hk.elim
end
def Tx.bind :Tx->(List (Loc×Item)->Tx)->Tx
 | .done ws,f=>f ws
 | .rd l k,f=> .rd l fun x=>(k x).bind f
 | .AU p k,f=> .AU p (k.bind f)
 | .kK p d k,f=> .kK p d (k.bind f)
 | .fail,_=> .fail
theorem Tx.uB {s:St} {f:List (Loc×Item)->Tx} {ws}: ∀{t:Tx},(t.bind f).ok s ws-> ∃ws0,t.ok s ws0/\(f ws0).ok s ws
 | .done ws0,h=>⟨ws0,rfl,h⟩
 | .rd l k,h=>Tx.uB (t:=k (s l)) h
 | .AU p k,h=>let⟨ws0,h1,h2⟩:=Tx.uB (t:=k) h.2;⟨ws0,⟨h.1,h1⟩,h2⟩
 | .kK p _ k,h=>let⟨ws0,h1,h2⟩:=Tx.uB (t:=k) h.2;⟨ws0,⟨h.1,h1⟩,h2⟩
 | .fail,h=>h.elim
def Mp (P:Program) (r:ResultVar) (k:SV->Tx):Tx:=match r with
 | .tmp t=>rdT t k
 | .cell t T=>(rdT t fun x=>x6 P 1 (some 0) T x).bind fun
  |[(_, .v y)]=>k y
  |_=> .fail
def oa (P:Program):List ResultVar->(List SV->Tx)->Tx
 |[],k=>k []
 |r::rs,k=>Mp P r fun x=>oa P rs fun xs=>k (x::xs)
def oneOf :List SV->SV
 |[x]=>x
 |l=> .bp l
def pk :KF:=fun _=>none
def eL :NF:=fun _=>none
def S1 (P:Program) (fn:Func) (r:SV):Tx:=oa P fn.results.toList fun xs=>cn xs fun xs' ws=>qn xs' fun xs'=> .AU (Vh pk eL (oneOf xs') r) (.done ws)
def H8 (P:Program) (fn:Func) (e es n:Nat) (f:Nat->List SV) (rs:List SV):Tx:=oa P fn.results.toList fun xs=>match xs with
 |x::rest=>(match x with
  | .aq=>cn rest fun rest' ws=>(match ws with
   |[]=> .AU (n=0/\uP pk eL rest' rs) (.done [])
   |_=> .fail)
  | .sl id aD off len=>DJ id fun m=>if m.row=true/\m.aD=aD/\m.es=es/\m.gN=false/\m.app=some e/\m.ns=1 then Dx id 0 fun
   | .a n' es' g=>if es'=es then cn rest fun rest' ws=>(match ws with
    |[]=> .AU ((off=0/\len=n/\n<=n')/\(∀i,i<n->yr es (g i)=true/\LV pk eL (g i) (f i))/\uP pk eL rest' rs) (.done [])
    |_=> .fail)else .fail
   |_=> .fail
   else .fail
  |_=> .fail)
 |[]=> .fail
def MH (P:Program) (fn:Func) (r:SV):Tx:=match r with
 | .Gl e es n f=>H8 P fn e es n f []
 | .bp (.Gl e es n f::rs)=>match rs with
  |[]=> .fail
  |_::_=>H8 P fn e es n f rs
 |r=>S1 P fn r
def vK (tmps:Array Value):ResultVar->Sem Value
 | .tmp t=>pure (tmps.getD t undef)
 | .cell a t=>do loadVar t (<-asAddr (tmps.getD a undef))
def Runs {α:Type} (P:Program) (w:World) (g:α->Sem Value):List α->List Value->Prop
 |[],[]=>True
 |x::l,v::vs=>(g x).run P w= .ok v w/\Runs P w g l vs
 |_,_=>False
theorem E9 {P:Program} {w:World} {α:Type} {g:α->Sem Value}: ∀{l:List α} {vs:List Value},Runs P w g l vs->(l.mapM g).run P w= .ok vs w
 |[],[],_=>by simp [Sem.run_pure]
 |x::l,v::vs,h=>by
  simp [Xn,Sem.run_bind,h.1,E9 h.2]
 |[],_::_,h=>h.elim
 |_::_,[],h=>h.elim
def QZ :List Value->Value
 |[v]=>v
 |l=> .tuple l.toArray
theorem lX {P:Program} {w:World} {fn:Func} {tmps:Array Value} {vs:List Value} (h:Runs P w (vK tmps) fn.results.toList vs):
 (results fn tmps).run P w= .ok (QZ vs) w:=by
 have e:results fn tmps=(do let vs<-fn.results.mapM (vK tmps);pure (if h:vs.size=1 then vs[0]else .tuple vs)):=by
  unfold results
  congr 1
 rw [e,Array.mapM_eq_mapM_toList];simp [Sem.run_bind,E9 h]
 match vs with
 |[]=>rfl
 |[v]=>rfl
 |v::u::r=>simp [QZ]
section
variable {E : Env} {P : Program} {ro : RO} {own : Own} {s : St} {w : World} {a : Act}
theorem Cq (h:bA E ro own s w a) {t:Nat} {k:SV->Tx} {ws} (hk:(rdT t k).ok s ws): ∃x,Rel ro own x (a.tmps.getD t undef)/\(k x).ok s ws:=by
 have:=aZ (o:= .tmp t) h hk;exact this
theorem WI (h:bA E ro own s w a) {r:ResultVar} {k:SV->Tx} {ws} (hk:(Mp P r k).ok s ws): ∃x v,(vK a.tmps r).run P w= .ok v w/\Rel ro own x v/\(k x).ok s ws:=by
 cases r with
 |tmp t=>
  obtain⟨x,h1,h2⟩:=Cq h hk;exact⟨x,_,by simp [vK,Sem.run_pure],h1,h2⟩
 |cell t T=>
  obtain⟨ws0,h1,h2⟩:=Tx.uB hk;obtain⟨x,h3,h4⟩:=Cq h h1;obtain⟨A,v,y,e1,e2,e3,e4⟩:=Ml h h3 h4;have:ws0=[(.tm 0, .v y)]:=by simpa [bm,Tx.ok,eq_comm]using e4
  subst this;exact⟨y,v,by simp [vK,e1,asAddr,Sem.run_bind,Sem.run_pure,e2],e3,h2⟩
theorem ra (h:bA E ro own s w a): ∀{l:List ResultVar} {k:List SV->Tx} {ws},(oa P l k).ok s ws-> ∃xs vs,Runs P w (vK a.tmps) l vs/\aQ ro own xs vs/\(k xs).ok s ws
 |[],k,ws,hk=>⟨[],[],trivial,trivial,hk⟩
 |r::l,k,ws,hk=>by
  obtain⟨x,v,h1,h2,hk⟩:=WI h hk;obtain⟨xs,vs,h3,h4,hk⟩:=ra h hk;exact⟨x::xs,v::vs,⟨h1,h3⟩,⟨h2,h4⟩,hk⟩
theorem aQ.one {xs:List SV} {vs:List Value} (h:aQ ro own xs vs):Rel ro own (oneOf xs) (QZ vs):=by
 have bp:Rel ro own (.bp xs) (.tuple vs.toArray):=by
  refine .bp _ _ _ (by simp [h.length]) fun i x hx=> ?_
  obtain⟨v,hv,hr⟩:=h.at i x hx;simpa [hv]using hr
 match xs,vs,h with
 |[],[],_=>exact bp
 |[x],[v],h=>exact h.1
 |x::y::r,v::u::q,h=>exact bp
theorem kR {ro:RO} {own':Own}: ∀{xs ys:List SV} {vs:List Value},uP pk eL xs ys->aQ ro own xs vs->aQ ro own' ys vs
 |[],[],[],_,_=>trivial
 |x::xs,y::ys,v::vs,h,hr=>⟨nC (Kp.none _ _) h.1 hr.1,kR h.2 hr.2⟩
 |[],_::_,_,h,_=>h.elim
 |_::_,[],_,h,_=>h.elim
theorem LC (h:bA E ro own s w a) {fn:Func} {r:SV} {ws} (hk:(S1 P fn r).ok s ws):
 ∃v ro',(results fn a.tmps).run P w= .ok v w/\Rel ro' Own.empty r v/\ga ro ro'/\(∀b o v,ro' b o=some v->eb w b o v)/\ ∀b o,b<E.B->ro' b o=E.R b o:=by
 obtain⟨xs,vs,h1,h2,hk⟩:=ra h hk;obtain⟨xs',ws',ro2,hk2,hle,hs,hr⟩:=iw (s:=s) ⟨fun _ _=>rfl,fun _=> .inl rfl⟩ h h2 hk;rw [kJ]at hk2;exact⟨_,ro2,lX h1,C3 (Kp.none _ _) hk2.1 hr.one,hle,hs.cJ,hs.ee⟩
theorem A9 (h:bA E ro own s w a) {fn:Func} {e es n:Nat} {f:Nat->List SV} {rs:List SV} {ws} (hk:(H8 P fn e es n f rs).ok s ws):
 ∃v0 vs ro',(results fn a.tmps).run P w= .ok (QZ (v0::vs)) w/\vs.length=rs.length/\BI ro' E.B w e es n f v0/\aQ ro' Own.empty rs vs/\ga ro ro'/\(∀b o v,ro' b o=some v->eb w b o v)/\ ∀b o,b<E.B->ro' b o=E.R b o:=by
 obtain⟨xs,vs,h1,h2,hk⟩:=ra h hk
 match xs,vs,h2,hk with
 |x::rest,v::vr,h2,hk=>
  have cont: ∀{k:List SV->List (Loc×Item)->Tx},(cn rest k).ok s ws-> ∃rest' ws' ro2,(k rest' ws').ok s ws/\ga ro ro2/\bA E ro2 own (s.apply ws') w a/\aQ ro2 Own.empty rest' vr:=fun hk=>iw (s:=s) ⟨fun _ _=>rfl,fun _=> .inl rfl⟩ h h2.2 hk
  dsimp only at hk;split at hk
  . obtain⟨rest',ws',ro2,hk2,hle,hs,hr⟩:=cont hk;split at hk2
    case h_2=>exact hk2.elim
    obtain⟨⟨hn,hl⟩,hk2⟩:=hk2;have hrr:=kR (own':=Own.empty) hl hr;refine⟨v,vr,ro2,lX h1,by rw [hrr.length], .inl ⟨gh h2.1,hn⟩,hrr,hle,hs.cJ,hs.ee⟩
  . rename_i id aD off len;obtain⟨m,hm,hk⟩:=fG hk;split at hk
    case isFalse=>exact hk.elim
    rename_i hc;obtain⟨c1,c2,c3,c4,c5,c6⟩:=hc;obtain⟨y,hy,hk⟩:=lf hk;split at hk
    case h_2=>exact hk.elim
    rename_i n' es' g;split at hk
    case isFalse=>exact hk.elim
    rename_i hes;subst hes;obtain⟨rest',ws',ro2,hk2,hle,hs,hr⟩:=cont hk;split at hk2
    case h_2=>exact hk2.elim
    obtain⟨⟨⟨hoff,hlen,hnn⟩,hrow,hl⟩,hk2⟩:=hk2;have hs:bA E ro2 own s w a:=hs;have hrr:=kR (own':=Own.empty) hl hr;have hx:=h2.1.mono hle (.refl _);subst hoff;subst hlen;subst c2;refine⟨v,vr,ro2,lX h1,by rw [hrr.length],?_,hrr,hle,hs.cJ,hs.ee⟩;rcases fH hx with⟨b,hb,hcap,hv⟩|⟨hb,hl0,ho0,hv⟩
    . have hl:=(hs.gK id m hm).live b hb c4;obtain⟨cs,e0,lo,hi,r0,r1,r2,r3,r4,r5,r6⟩:=hl.body;obtain⟨q1,q2,q3,q4⟩:=r2 e c5;subst q1;subst q2;subst q3;have hsg:s.az id m.ns=[.a n' es' g]:=by
       rw [c6];simp [St.az,hy]
      have hes0:own.es id 0=es':=by
       rw [(hs.gK id m hm).es 0 (.a n' es' g) (by rw [hsg];rfl)];rfl
      refine .inr ⟨b,own.cap id m.aD,cs,⟨by simpa using hv,hl.low,hl.apart,r0,q4,by rw [r6 c1,hes0],by omega,fun k sv hk=> ?_⟩⟩;have hklt:k<len*es':=by have:=cK hk;simpa [aa,ar.size]using this
      rw [cy hklt]at hk;have hep:0<es':=by
       rcases Jw es' with h0|h0
       . subst h0;simp at hklt
       . exact h0
      have hi:k/es'<len:=by rw [K9 hep];exact hklt
      obtain⟨o1,o2⟩:=hrow _ hi;obtain⟨o3,o4⟩:=CP o2;obtain⟨x,hx1,hx2⟩:=o4 _ sv hk;have hk2:k<n'*es':=Qf hklt (Jl _ hnn);have hfl:flat (s.az id m.ns) k=some x:=by rw [hsg,cy hk2];exact hx1
      have hcl:fM x=true:=by
       simp only [yr,J2,Js]at o1;exact o1.2 x (Y1 hx1)
      exact uN (Kp.none _ _) hx2 (iq (o':=Own.empty) (r4 k x hfl) hcl)
    . subst hl0;exact .inl ⟨hv,rfl⟩
  . exact hk.elim
end
def FL (N:Nat) (ops:Array Oper):Bool:=ops.toList.all fun o=>(match o.dst with|some d=>Nat.blt d N|none=>true)&&(match o.guard with
 |some (j,_)=>(match ir ops j with|some t=>Nat.blt t N|none=>true)
 |none=>true)
def IV (c:Operand) (s:bg) (ka kb:bg->Prop):Prop:=match c with
 | .tmp t=>(match s.get (.tm t)with
  | .v .tt=>ka s
  | .v .ff=>kb s
  | .v (.bool b)=>(b=true->s.MJ (.tm t) (.v .tt) ka)/\(b=false->s.MJ (.tm t) (.v .ff) kb)
  |_=>False)
 | .const (.bool true)=>ka s
 | .const (.bool false)=>kb s
 |_=>False
structure ru (b : Bool) : Prop where
 h : b = true
def Lu (draw:Bool) (ops:Array Oper) (tr:List Tr):Prop:=match draw with
 |true=>ru (Ej ops tr)
 |false=>True
def exec (X:Ctx):Code->bg->(bg->Prop)->(Nat->bg->Prop)->(bg->Prop)->Prop
 | .skip,s,kn,_,_=>kn s
 | .label _,s,kn,_,_=>kn s
 | .seq a b,s,kn,kx,kr=>exec X a s (fun s=>exec X b s kn kx kr) kx kr
 | .cond c a b,s,kn,kx,kr=>IV c s (fun s=>exec X a s kn kx kr) (fun s=>exec X b s kn kx kr)
 | .block id c,s,kn,kx,kr=>exec X c s kn (fun i s=>match Nat.beq i id with|true=>kn s|false=>kx i s) kr
 | .exit id,s,_,kx,_=>kx id s
 | .ret,s,_,_,kr=>kr s
 | .region _ ops draw,s,kn,_,_=>match FL X.N ops with
  |true=>mJ X ops ops.toList 0 s [] fun s tr=>Lu draw ops tr/\kn s
  |false=>False
 | .loop c,s,_,kx,kr=> ∃(T:Type) (S:T->bg) (I:T->Prop) (μ:T->Nat),(∃x,I x/\Ma s (S x))/\ ∀x,I x->exec X c (S x) (fun s'=> ∃x',I x'/\μ x'<μ x/\Ma s' (S x')) kx kr
 |_,_,_,_,_=>False
theorem EN {E:Env} {P:Program} {c:Operand} {s:bg} {ka kb:bg->Prop} (h:IV c s ka kb) {x y:Code} {Q:Exit->Act->World->Prop} {w:World} {a:Act} (hs:dL E s.get w a)
 (ha: ∀s1:bg,ka s1->dL E s1.get w a->x.wp P Q a w) (hb: ∀s1:bg,kb s1->dL E s1.get w a->y.wp P Q a w):(Code.cond c x y).wp P Q a w:=by
 unfold IV at h;split at h
 . rename_i t;split at h
   . rename_i ht;obtain⟨ro,own,hg⟩:=hs;exact wp_cond_true (nX (hg.tm t _ ht)) (ha s h ⟨ro,own,hg⟩)
   . rename_i ht;obtain⟨ro,own,hg⟩:=hs;exact wp_cond_false (qD (hg.tm t _ ht)) (hb s h ⟨ro,own,hg⟩)
   . rename_i b ht;have self:St.put s.get (.tm t) (.v (.bool b))=s.get:=by
      funext l
      by_cases e:l= .tm t
      . subst e;rw [St.cQ,ht]
      . rw [St.bh _ _ e]
     have hs':dL E (St.put s.get (.tm t) (.v (.bool b))) w a:=by rw [self];exact hs
     obtain⟨ro,own,hg⟩:=hs;refine wp_cond_split (jJ (hg.tm t _ ht)) (fun e=> ?_) (fun e=> ?_)
     . obtain⟨s1,h1,this⟩:=bg.uT (h.1 e);exact ha s1 this (by rw [bg.tP h1];exact dL.Rs hs' fun _ _ _ hr=>T8 e hr)
     . obtain⟨s2,h2,this⟩:=bg.uT (h.2 e);exact hb s2 this (by rw [bg.tP h2];exact dL.Rs hs' fun _ _ _ hr=>S3 e hr)
   . exact h.elim
 . exact wp_cond_true rfl (ha s h hs)
 . exact wp_cond_false rfl (hb s h hs)
 . exact h.elim
def sd :Code->Bool
 | .seq a b=>sd a&&sd b
 | .cond _ a b=>sd a&&sd b
 | .block _ c=>sd c
 | .loop _=>false
 |_=>true
theorem Bt {p:Prop} {a b:Bool} (h:(a&&b)=true\/p):(a=true\/p)/\(b=true\/p):=by
 rcases h with h|h
 . rw [J2]at h;exact⟨.inl h.1, .inl h.2⟩
 . exact⟨.inr h, .inr h⟩
theorem Hl {E:Env} {X:Ctx} (hN:E.N=X.N) (hC: ∀f c,X.C f=some c->nh X.P f c) (hm:X.P.follows .mixedOrders=true): ∀(c:Code) (hK:sd c=true\/ ∀o r,E.K o r) (s:bg) (kn:bg->Prop) (kx:Nat->bg->Prop) (kr:bg->Prop),exec X c s kn kx kr->
 ∀Q:Exit->Act->World->Prop,(∀s:bg,kn s-> ∀a w,dL E s.get w a->Q .normal a w)->(∀(i:Nat) (s:bg),kx i s-> ∀a w,dL E s.get w a->Q (.exit i) a w)->(∀s:bg,kr s-> ∀a w,dL E s.get w a->Q .ret a w)->
 ∀a w,dL E s.get w a->c.wp X.P Q a w:=by
 intro c
 induction c with
 |skip=>intro hK s kn kx kr h Q hn hx hr a w hs;exact wp_skip (hn s h a w hs)
 |label l=>intro hK s kn kx kr h Q hn hx hr a w hs;exact wp_label (hn s h a w hs)
 |seq x y ihx ihy=>
  intro hK s kn kx kr h Q hn hx hr a w hs;obtain⟨hK1,hK2⟩:=Bt hK;exact wp_seq (ihx hK1 s _ _ _ h (Exit.then (y.wp X.P Q) Q) (fun s1 h1 a w hs=>ihy hK2 s1 _ _ _ h1 Q hn hx hr a w hs) hx hr a w hs)
 |cond c x y ihx ihy=>
  intro hK s kn kx kr h Q hn hx hr a w hs;obtain⟨hK1,hK2⟩:=Bt hK;exact EN h hs (fun s1 h1 hs1=>ihx hK1 s1 _ _ _ h1 Q hn hx hr a w hs1) (fun s1 h1 hs1=>ihy hK2 s1 _ _ _ h1 Q hn hx hr a w hs1)
 |block id x ih=>
  intro hK s kn kx kr h Q hn hx hr a w hs;refine wp_block (ih hK s _ _ _ h (Exit.inBlock id Q) hn (fun i s1 h1 a w hs=> ?_) hr a w hs);simp only [Exit.inBlock];split at h1
  . rename_i he;rw [if_pos (Jd he)];exact hn s1 h1 a w hs
  . rename_i he;rw [if_neg (Nat.ne_of_beq_eq_false he)];exact hx i s1 h1 a w hs
 |exit id=>intro hK s kn kx kr h Q hn hx hr a w hs;exact wp_exit (hx id s h a w hs)
 |ret=>intro hK s kn kx kr h Q hn hx hr a w hs;exact wp_ret (hr s h a w hs)
 |loop c ih=>
  intro hK s kn kx kr h Q hn hx hr a w hs;have hK: ∀o r,E.K o r:=hK.resolve_left (by simp [sd]);obtain⟨T,S,I,μ,⟨x0,hI0,hle0⟩,hround⟩:=h;refine wp_loop_ghost (fun n a w=> ∃x,I x/\μ x=n/\dL E (S x).get w a) (μ x0) ⟨x0,hI0,rfl,DB hK hle0 hs⟩ ?_;rintro n a w ⟨x,hI,rfl,hs⟩;refine ih (.inr hK) (S x) _ _ _ (hround x hI) (Exit.then _ Q) (fun s1 h1 a w hs=> ?_) hx hr a w hs;obtain⟨x',hI',hlt,hle⟩:=h1;exact⟨μ x',hlt,x',hI',rfl,DB hK hle hs⟩
 |region id ops draw=>
  intro hK s kn kx kr h Q hn hx hr a w hs;unfold exec at h;split at h
  case h_2=>exact h.elim
  rename_i hok;simp only [FL,Js,J2]at hok;obtain⟨st,s1,h1,h2,h3,h4⟩:=tR hN hC h (fun j _=>by simp) (fun o ho t=>by
   have:=(hok o ho).2;split
   . rename_i j b hg;intro ht;simp only [hg,ht]at this;rw [hN];simpa [Z1]using this
   . trivial) (fun o ho d hd=>by
   have:=(hok o ho).1;rw [hd]at this;rw [hN];simpa [Z1]using this)
  simp only [Jg]at h4;have fin:kn s1-> ∀a w,dL E (St.apply s.get (st.flatMap (·.ws))) w a->Q .normal a w:=fun hk a w hs=>hn s1 hk a w (by rw [h2];exact hs)
  obtain⟨hd,h3⟩:=h3;cases draw with
  |false=>
   refine wp_region ?_;have:=vC (P:=X.P) (Q:=Q) (ops:=ops) st 0 s.get (fun m x hx=>by simpa using h4 m x hx) (fin h3) a w hs;rw [h1,Array.length_toList,<-List.range_eq_range']at this;exact this
  |true=>
   have hd:=hd.h;simp only [Jj]at hd;refine wp_region_any hm (BH (st:=st) (s:=s.get) (by rw [h1];simp) h4 hd (fin h3) _ _ (by simp) (by simp [mq]) (fun j o ho hj=> ?_) a _ ?_)
   . simp [Xs]at hj;split at hj<;>cases hj
   . have:wG st 0 (fun m=>(Array.replicate ops.size false).getD m false) s.get=s.get:=by
      rw [<-lN st 0 s.get]
      congr 1
      . funext m;simp [Xs];split<;>rfl
      . exact lN st 0 s.get
     rw [this];obtain⟨ro,own,hg⟩:=hs;exact⟨ro,own,hg.world rfl rfl rfl rfl⟩
 |_=>intro hK s kn kx kr h;exact h.elim
theorem AW {ro:RO} {own own':Own} {kp:KF} {nl:NF} (K:Kp own own' kp nl): ∀{xs ys:List SV} {vs:List Value},uP kp nl xs ys->aQ ro own xs vs->aQ ro own' ys vs
 |[],[],[],_,_=>trivial
 |x::xs,y::ys,v::vs,h,hr=>⟨nC K h.1 hr.1,AW K h.2 hr.2⟩
 |[],_::_,_,h,_=>h.elim
 |_::_,[],_,h,_=>h.elim
def mh (N:Nat) (args:List SV):bg:=⟨args++List.replicate (N-args.length) (.bp []),[]⟩
def Gx (P:Program) (fn:Func) (r:SV) (s:bg):Prop:=(MH P fn r).run s [] fun _ _=>True
def RH (P:Program) (N:Nat) (code:Code) (s:bg) (kn:bg->Prop) (kx:Nat->bg->Prop) (kr:bg->Prop):Prop:= ∀E:Env,E.N=N->(∀o r,E.K o r)-> ∀Q:Exit->Act->World->Prop,(∀s:bg,kn s-> ∀a w,dL E s.get w a->Q .normal a w)->(∀(i:Nat) (s:bg),kx i s-> ∀a w,dL E s.get w a->Q (.exit i) a w)->(∀s:bg,kr s-> ∀a w,dL E s.get w a->Q .ret a w)->
 ∀a w,dL E s.get w a->code.wp P Q a w
theorem Rk {P:Program} {f:Nat} {fn:Func} {code:Code} (hf:P.funcs[f]?=some fn) (hb:fn.body=some code)
 {args:List SV} {r:SV} (hlen:args.length<=fn.ntmps) (hvc:RH P fn.ntmps code (mh fn.ntmps args) (Gx P fn r) (fun _ _=>False) (Gx P fn r)) (R:RO) (w:World) (vals:Array Value) (hR: ∀b o v,R b o=some v->eb w b o v) (hrel:aQ R Own.empty args vals.toList):
 Calls P f vals w fun e w'=> ∃v R',e= .returned v/\uc R' w.heap.size w' r v/\ga R R'/\(∀b o v,R' b o=some v->eb w' b o v)/\(∀b o,b<w.heap.size->R' b o=R b o)/\Below w.heap.size w w':=by
 have hsz:vals.size=args.length:=by have:=hrel.length;simp at this;omega
 let E:Env:=⟨w.heap.size,w,R,fn.ntmps,fun _ _=>True,fun _ _ _ _ _ _ _=>trivial⟩
 let a0:Act:={tmps:=vals++Array.replicate (fn.ntmps-vals.size) undef,defers:=[]}
 have hs0:dL E (mh fn.ntmps args).get w a0:=by
  refine⟨R,Own.empty,{below:=Below.refl _ _,base:=J1 _,defs:=rfl,size:= ?_,tm:= ?_,cJ:=hR,ee:=fun _ _ _=>rfl,gK:= ?_,fr:=fun _ _ _=>rfl,mY:=fun _ _ _ _ _=>rfl,inj:= ?_,kk:=trivial,mp:=⟨fun id m _ _ _ hm=>by simp [bg.get,mh]at hm,fun id id' m m' b _ _ _ _ _ _ hm=>by simp [bg.get,mh]at hm⟩}⟩
  . simp [a0,E];omega
  . intro t sv ht;simp only [bg.get,mh,Item.v.injEq]at ht
    by_cases h1:t<args.length
    . have e1:(args++List.replicate (fn.ntmps-args.length) (SV.bp []))[t]?=args[t]?:=Ka h1;rw [J0,e1,J4 h1]at ht;simp at ht;subst ht;obtain⟨v,hv,hr⟩:=hrel.at t _ (J4 h1);have h2:t<vals.size:=by omega
      have:a0.tmps.getD t undef=v:=by
       simp only [Xp]at hv;simp [a0,Y3,h2];simpa [Xr h2]using hv
      rw [this];exact hr
    . by_cases h2:t<fn.ntmps
      . have e1:(args++List.replicate (fn.ntmps-args.length) (SV.bp []))[t]?=some (.bp []):=by
         rw [Jy (by omega),Xh,if_pos (by omega)]
        rw [J0,e1]at ht;simp at ht;subst ht;have:a0.tmps.getD t undef=undef:=by
         have h3: ¬t<vals.size:=by omega
         have h4:t-vals.size<fn.ntmps-vals.size:=by omega
         simp [a0,Y3,h3,h4,Xs]
        rw [this];exact .bp _ _ _ rfl (by simp)
      . rw [J0,J7 (by simp;omega)]at ht;simp at ht;subst ht;exact .any _ _
  . intro id m hm;simp [bg.get,mh]at hm
  . intro id id' m m' b hm;simp [bg.get,mh]at hm
 have done: ∀s:bg,Gx P fn r s-> ∀a w',dL E s.get w' a->a.defers=[]/\ ∃v,(results fn a.tmps).run P w'= .ok v w'/\ ∃v' R',Ending.returned v= .returned v'/\uc R' w.heap.size w' r v'/\ga R R'/\(∀b o v,R' b o=some v->eb w' b o v)/\(∀b o,b<w.heap.size->R' b o=R b o)/\Below w.heap.size w w':=by
  intro s he a w' hs;obtain⟨ro,own,hg⟩:=hs;obtain⟨ws,_,hk,_⟩:=Tx.uZ he;have hres: ∃v ro',(results fn a.tmps).run P w'= .ok v w'/\uc ro' E.B w' r v/\ga ro ro'/\(∀b o v,ro' b o=some v->eb w' b o v)/\ ∀b o,b<E.B->ro' b o=E.R b o:=by
   unfold MH at hk;split at hk
   . obtain⟨v0,vs,ro',g1,g2,g3,g4,g5⟩:=A9 hg hk
     match vs,g2 with
     |[],_=>exact⟨v0,ro',g1,g3,g5⟩
   . split at hk
     . exact hk.elim
     . obtain⟨v0,vs,ro',g1,g2,g3,g4,g5⟩:=A9 hg hk
       match vs,g2,g4 with
       |u::vs,_,g4=>exact⟨_,ro',g1,⟨v0,u::vs,rfl,g3,g4⟩,g5⟩
   . obtain⟨v,ro',g1,g2,g3⟩:=LC hg hk;exact⟨v,ro',g1, .of g2,g3⟩
  obtain⟨v,ro',h1,h2,h3,h4,h5⟩:=hres;refine⟨hg.defs,v,h1,v,ro',rfl,h2,fun b o u hu=> ?_,h4,h5,hg.below⟩;have hlt:b<w.heap.size:=by
   have:=(hR b o u hu).1;unfold World.cell? at this;rcases Kv b w.heap.size with h|h
   . exact h
   . simp [Y2 h]at this
  rw [h5 b o hlt];exact hu
 refine calls_of_wp hf hb ?_;refine hvc E rfl (fun _ _=>trivial) _ (fun s h a w hs=> ?_) (fun _ _ h=>h.elim) (fun s h a w hs=> ?_) a0 w hs0
 . exact done s h a w hs
 . exact done s h a w hs
end Go.Sx
namespace Go.Sx
open Go Go.RowKit
variable [bW]
def fl {α:Type} (dec:List SV->Option (Prop×α)) (pre:α->Prop) (res:α->SV):bB:=fun args=>qn args fun args=>match dec args with
 |some (p,a)=>some (p/\pre a,res a)
 |none=>none
def SX {α:Type} (n:Nat) (dec:List SV->Option (Prop×α)) (enc:α->List SV):Prop:= ∀l p a,dec l=some (p,a)->p->uP pk eL l (enc a)/\l.length=n
section
variable {β : Type}
def aR (es:Nat) (l:List SV) (k:Nat->(Nat->List SV)->List SV->Option β):Option β:=match l with
 | .aI es' n f::r=>(match Nat.beq es' es with
  |true=>k n f r
  |false=>none)
 | .aq::r=>k 0 (fun _=>[]) r
 |_=>none
variable {b : β}
end
def WQ :List (Nat×bB)->Nat->Option bB
 |[],_=>none
 |(f,c)::r,g=>match Nat.beq g f with
  |true=>some c
  |false=>WQ r g
def aH (P:Program):List (Nat×bB)->Prop
 |[]=>True
 |(f,c)::r=>nh P f c/\aH P r
theorem HP {P:Program}: ∀{l:List (Nat×bB)},aH P l-> ∀f c,WQ l f=some c->nh P f c
 |[],_,f,c,h=>by cases h
 |(g,d)::r,h,f,c,hc=>by
  simp only [WQ]at hc;split at hc
  . rename_i he;have:=Jd he;subst this;cases hc;exact h.1
  . exact HP h.2 f c hc
def mB (fn:Func):Code:=fn.body.getD .skip
end Go.Sx
namespace Go.Sx
open Go Go.RowKit
variable [bW]
section
variable {E : Env} {ro : RO} {own : Own} {s : St} {w : World} {a : Act}
theorem bA.sayT (h:bA E ro own s w a) {t:Nat} {y:SV} (hr:Rel ro own y (a.tmps.getD t undef)):bA E ro own (s.put (.tm t) (.v y)) w a:=by
 have hne: ∀l,(∀t',l≠ .tm t')->(s.put (.tm t) (.v y)) l=s l:=fun l hl=>by rw [St.bh _ _ (hl t)]
 have hsg: ∀i n,(s.put (.tm t) (.v y)).az i n=s.az i n:=fun i n=>St.dc fun q _=>hne _ (by simp)
 refine {below:=h.below,base:=h.base,defs:=h.defs,size:=h.size,tm:= ?_,cJ:=h.cJ,ee:=h.ee,gK:= ?_,fr:= ?_,mY:= ?_,inj:= ?_,kk:=h.kk,mp:=h.mp' (.refl _) (.refl _) (fun id m h1 h2=>⟨by rw [hne _ (by simp)]at h1;exact h1,fun n e f h3=>by rw [hne _ (by simp)]at h3;exact h3⟩) (fun _ _ _ _ h=>h)}
 . intro t' sv ht
   by_cases e:t'=t
   . subst e;rw [St.cQ]at ht;simp at ht;subst ht;exact hr
   . rw [St.bh _ _ (by simpa using e)]at ht;exact h.tm t' sv ht
 . intro id m hm;rw [hne _ (by simp)]at hm;rw [hsg];exact h.gK id m hm
 . intro id hm;rw [hne _ (by simp)]at hm;exact h.fr id hm
 . intro id m hm;rw [hne _ (by simp)]at hm;exact h.mY id m hm
 . intro id id' m m' b hm hm';rw [hne _ (by simp)]at hm hm';exact h.inj id id' m m' b hm hm'
end
def frzTx (t:Nat):Tx:=rdT t fun x=>cn [x] fun
 |[y],ws=> .done (ws++[(.tm t, .v y)])
 |_,_=> .fail
def QI :List Nat->bg->(bg->Prop)->Prop
 |[],s,k=>k s
 |t::r,s,k=>(frzTx t).run s [] fun _ ws=>ux s ws fun s=>s.force fun s=>QI r s k
theorem Cf {E:Env} {w:World} {a:Act}: ∀{ts:List Nat} {s:bg} {k:bg->Prop},QI ts s k->dL E s.get w a-> ∃s':bg,dL E s'.get w a/\k s'
 |[],s,k,h,hs=>⟨s,hs,h⟩
 |t::r,s,k,h,hs=>by
  obtain⟨ws,R,h1,h2,_⟩:=Tx.uZ h;obtain⟨s1,h3,h4⟩:=mM h2;rw [bg.force_eq]at h4;refine Cf h4 ?_;obtain⟨ro,own,hg⟩:=hs;obtain⟨x,hx,hk⟩:=Cq hg h1;obtain⟨xs',ws',ro2,hk2,hle,hs2,hr⟩:=iw (s:=s.get) (vals:=[a.tmps.getD t undef]) ⟨fun _ _=>rfl,fun _=> .inl rfl⟩ hg (xs:=[x]) ⟨hx,trivial⟩ hk
  match xs',hr,hk2 with
  |[y],hr,hk2=>
   have e:ws=ws'++[(.tm t, .v y)]:=hk2.symm;rw [h3,e,aM,kA];exact⟨ro2,own,hs2.sayT (hr.1.own (Own.empty_le _))⟩
def dI (a b n:Nat):Nat:=match Nat.beq n a with
 |true=>b
 |false=>match Nat.beq n b with
  |true=>a
  |false=>n
theorem kH (a b n:Nat):dI a b (dI a b n)=n:=by
 unfold dI;cases h1:Nat.beq n a<;>cases h2:Nat.beq n b
 . simp [h1,h2]
 . have:=Jd h2;subst this;simp
 . have:=Jd h1;subst this;cases h3:Nat.beq b n
   . simp [h3]
   . simp [h3,Jd h3]
 . have:=Jd h1;subst this;have:=Jd h2;subst this;simp
def rW (R:SV->SV):ar->ar
 | .s v=> .s (R v)
 | .a n es f=> .a n es fun i=>(f i).map R
def rE (a b:Nat):Nat->SV->SV
 |0,_=> .any
 |d+1,x=>match x with
  | .ptr id q=> .ptr (dI a b id) q
  | .su id v q i j=> .su (dI a b id) v q i j
  | .sl id v o n=> .sl (dI a b id) v o n
  | .z9 id=> .z9 (dI a b id)
  | .agg l=> .agg (l.map (rW (rE a b d)))
  | .bp l=> .bp (l.map (rE a b d))
  | .fn f p q=> .fn f (p.map (rE a b d)) (q.map (rE a b d))
  |x=>x
def Own.xq (a b:Nat) (o:Own):Own:=⟨fun id v=>o.env (dI a b id) v,fun id v=>o.cap (dI a b id) v,fun id q=>o.st (dI a b id) q,fun id q=>o.es (dI a b id) q⟩
theorem R5 (R:SV->SV) (x:ar) (k:Nat):(rW R x).at k=(x.at k).map R:=by
 cases x with
 |s v=>cases k<;>simp [rW,ar.at]
 |a n es f=>
  simp only [rW,ar.at];split
  . simp
  . rfl
theorem BF (R:SV->SV) (x:ar):(rW R x).size=x.size:=by cases x<;>rfl
theorem RB (R:SV->SV) (x:ar):(rW R x).es=x.es:=by cases x<;>rfl
theorem GJ (R:SV->SV) (x:ar):(rW R x).shape=x.shape:=by cases x<;>rfl
theorem yF (R:SV->SV) (l:List ar) (k:Nat):flat (l.map (rW R)) k=(flat l k).map R:=by
 induction l generalizing k with
 |nil=>rfl
 |cons x r ih=>
  simp only [J8,flat,BF,R5,ih];split<;>rfl
theorem gv (R:SV->SV) (l:List ar):aa (l.map (rW R))=aa l:=by
 induction l with
 |nil=>rfl
 |cons x r ih=>simp only [J8,aa,BF,ih]
theorem wU {ro:RO} {own:Own} (p q:Nat): ∀(d:Nat) {x:SV} {v:Value},Rel ro own x v->Rel ro (own.xq p q) (rE p q d x) v
 |0,x,v,h=> .any _ _
 |d+1,x,v,h=>by
  have ih:=fun {x:SV} {v:Value} (h:Rel ro own x v)=>wU (ro:=ro) (own:=own) p q d h
  have e1: ∀id aD,(own.xq p q).env (dI p q id) aD=own.env id aD:=fun id aD=>by simp [Own.xq,kH]
  have e2: ∀id aD,(own.xq p q).cap (dI p q id) aD=own.cap id aD:=fun id aD=>by simp [Own.xq,kH]
  have e3: ∀id j,(own.xq p q).st (dI p q id) j=own.st id j:=fun id j=>by simp [Own.xq,kH]
  have e4: ∀id j,(own.xq p q).es (dI p q id) j=own.es id j:=fun id j=>by simp [Own.xq,kH]
  cases h with
  |any=>exact .any _ _
  |bool=>exact .bool _ _
  |tt=>exact .tt _
  |ff=>exact .ff _
  |int=>exact .int _ _ _
  |str=>exact .str _ _
  |aq=>exact .aq _
  |agg _ l cs hs hh=>
   refine .agg _ _ _ (by rw [gv];exact hs) fun k sv hk=> ?_
   rw [yF]at hk;obtain⟨u,hu,rfl⟩:=Jp.1 hk;exact ih (hh k u hu)
  |bp _ l vs hs hh=>
   refine .bp _ _ _ (by simpa using hs) fun i sv hi=> ?_
   simp only [J5,Jp]at hi;obtain⟨u,hu,rfl⟩:=hi;exact ih (hh i u hu)
  |ptr _ id j b hb=>rw [<-e3];exact .ptr _ _ _ _ (by rw [e1];exact hb)
  |su _ id aD j i k b hb=>rw [<-e3,<-e4];exact .su _ _ _ _ _ _ _ (by rw [e1];exact hb)
  |sl _ id aD off len b hb hc=>rw [<-e2,<-e4];exact .sl _ _ _ _ _ _ (by rw [e1];exact hb) (by rw [e2];exact hc)
  |Es _ id aD off len hb hl ho=>exact .Es _ _ _ _ _ (by rw [e1];exact hb) hl ho
  |fe _ es len f A cap h0=>exact .fe _ _ _ _ _ _ h0
  |aI _ es len f b k0 cap vs hc hl hm hh=>exact .aI _ _ _ _ _ _ _ vs hc hl hm hh
  |rA _ es len f i j b k0 vs hl hm hh hi=>exact .rA _ _ _ _ _ _ _ _ vs hl hm hh hi
  |fn _ f x y va vb ha hb h1 h2=>
   refine .fn _ _ _ _ _ _ (by simpa using ha) (by simpa using hb) (fun i sv hi=> ?_) (fun i sv hi=> ?_)
   . simp only [J5,Jp]at hi;obtain⟨u,hu,rfl⟩:=hi;exact ih (h1 i u hu)
   . simp only [J5,Jp]at hi;obtain⟨u,hu,rfl⟩:=hi;exact ih (h2 i u hu)
  |DG _ v h=>exact .DG _ _ h
  |emp _ A=>exact .emp _ _
  |z9 _ id b hb=>exact .z9 _ _ _ (by rw [e1];exact hb)
  |km=>exact .km _
  |lG=>exact .lG _
  |pn=>exact .pn _
  |sy _ k e lo hi n h1 h2 h3=>exact .sy _ _ _ _ _ _ h1 h2 h3
  |tg _ i v h=>exact .tg _ _ _ h
def iK :Nat:=5
def renE (p q:Nat) (en:List (lZ×List ar)):Nat->lZ×List ar:=fun i=>match en[dI p q i]? with
 |some (m,l)=>(m,l.map (rW (rE p q iK)))
 |none=>(⟨0,true,false,none,0,0,[]⟩,[])
def bg.xq (p q:Nat) (s:bg):bg:=⟨s.tm.map (rE p q iK),(List.range s.en.length).map (renE p q s.en)⟩
def Gv :List (lZ×List ar)->Bool
 |[]=>true
 |(m,_)::r=> !cz m&&Gv r
def renW :List (Nat×Nat)->bg->(bg->Prop)->Prop
 |[],s,k=>k s
 |(p,q)::r,s,k=>match Nat.blt p s.en.length&&Nat.blt q s.en.length&&Gv s.en with
  |true=>(s.xq p q).force fun s=>renW r s k
  |false=>False
theorem EP : ∀{l:List (lZ×List ar)},Gv l=true-> ∀(i:Nat) (m:lZ) (g:List ar),l[i]?=some (m,g)->cz m=false
 |[],_,i,m,g,h=>by simp at h
 |(m0,g0)::r,hn,i,m,g,h=>by
  simp only [Gv,J2,Yx]at hn;cases i with
  |zero=>simp at h;rw [<-h.1];exact hn.1
  |succ i=>simp at h;exact EP hn.2 i m g h
theorem Gf {p q n L:Nat} (hp:p<L) (hq:q<L):dI p q n<L↔n<L:=by
 unfold dI;cases h1:Nat.beq n p<;>cases h2:Nat.beq n q<;>simp
 . have:=Jd h2;subst this;omega
 . have:=Jd h1;subst this;omega
 . have:=Jd h1;subst this;omega
theorem ren_sim {E:Env} (hK: ∀o r,E.K o r) {s:bg} {w:World} {a:Act} {p q:Nat} (hp:p<s.en.length) (hq:q<s.en.length) (hnm:Gv s.en=true) (hs:dL E s.get w a):dL E (s.xq p q).get w a:=by
 obtain⟨ro,own,hg⟩:=hs;have hen: ∀id,(s.xq p q).en[id]?=(s.en[dI p q id]?).map fun e=>(e.1,e.2.map (rW (rE p q iK))):=by
  intro id;simp only [bg.xq,J5,List.getElem?_range']
  by_cases h:id<s.en.length
  . rw [Q9 h];have h2:=(Gf (n:=id) hp hq).2 h;simp only [K4,renE,J4 h2]
  . have h2: ¬dI p q id<s.en.length:=fun h3=>h ((Gf hp hq).1 h3)
    rw [J7 (by simpa using h),J7 (by omega)];rfl
 have hmt: ∀id,(s.xq p q).get (.mt id)=s.get (.mt (dI p q id)):=by
  intro id;simp only [bg.get,hen,Option.map_map];rfl
 have hsg: ∀id j m l,s.en[dI p q id]?=some (m,l)->j<l.length->St.uC (s.xq p q).get id j=rW (rE p q iK) (St.uC s.get (dI p q id) j):=by
  intro id j m l h hj;simp only [St.uC,bg.get,hen,h,K4,Xg,J5,J4 hj,K5]
 have hsegs: ∀id m,s.get (.mt (dI p q id))= .m (some m)-> ∃l,s.en[dI p q id]?=some (m,l)/\((s.xq p q).get) (.mt id)= .m (some m):=by
  intro id m hm;obtain⟨l,hl⟩:=sa hm;exact⟨l,hl,by rw [hmt,hm]⟩
 have hme: ∀id m,s.get (.mt id)= .m (some m)->cz m=false:=by
  intro id m hm;obtain⟨l,hl⟩:=sa hm;exact EP hnm id m l hl
 have hsl: ∀id m,s.get (.mt (dI p q id))= .m (some m)->St.az (s.xq p q).get id m.ns=(St.az s.get (dI p q id) m.ns).map (rW (rE p q iK)):=by
  intro id m hm;obtain⟨l,hl⟩:=sa hm;apply Xc;intro j
  by_cases hj:j<m.ns
  . rw [St.bL _ _ _ _ hj,J5,St.bL _ _ _ _ hj]
    by_cases hjl:j<l.length
    . rw [hsg id j m l hl hjl];rfl
    . have hen2:(s.xq p q).en[id]?=some (m,l.map (rW (rE p q iK))):=by rw [hen,hl];rfl
      have g1:St.uC (s.xq p q).get id j= .s .any:=by
       simp only [St.uC,bg.get,hen2,Xg];rw [J7 (by simpa using hjl)];rfl
      have g2:St.uC s.get (dI p q id) j= .s .any:=by
       simp only [St.uC,bg.get,hl,Xg];rw [J7 (by simpa using hjl)];rfl
      rw [g1,g2];rfl
  . rw [J7 (by rw [St.aU];omega),J7 (by rw [Qj,St.aU];omega)]
 refine⟨ro,own.xq p q,{below:=hg.below,base:=hg.base,defs:=hg.defs,size:=hg.size,tm:= ?_,cJ:=hg.cJ,ee:=hg.ee,gK:= ?_,fr:= ?_,mY:= ?_,inj:= ?_,kk:=hK _ _,mp:=⟨fun id m n e f h1 h2 _=> ?_,fun id id' m m' b _ _ _ _ _ _ h1 h2 h3 _ _ _ _ _=> ?_⟩}⟩
 . intro t sv ht;simp only [bg.get,bg.xq,Item.v.injEq]at ht;rw [J0,J5]at ht;cases hy:s.tm[t]? with
   |none=>rw [hy]at ht;simp at ht;subst ht;exact .any _ _
   |some y=>
    rw [hy]at ht;simp at ht;subst ht;exact wU p q iK (hg.tm t y (by simp [bg.get,hy]))
 . intro id m hm;rw [hmt]at hm;have he:=hg.gK _ m hm;rw [hsl id m hm];have tk: ∀j,aa (((St.az s.get (dI p q id) m.ns).map (rW (rE p q iK))).take j)=aa ((St.az s.get (dI p q id) m.ns).take j):=fun j=>by rw [<-List.map_take,gv]
   refine {st:=fun j hj=>by rw [tk];exact he.st j hj,es:=fun j x hx=> ?_,row:=fun hr=> ?_,plain:=fun hr=>⟨(he.plain hr).1,?_⟩,there:=he.there,nil:=fun hn=> ?_,live:=fun b hb hz=> ?_,dn:=fun b hb hz k hk=> ?_}
   . rw [J5]at hx;obtain⟨y,hy,rfl⟩:=Jp.1 hx;rw [RB];exact he.es j y hy
   . obtain⟨n,f,h1,h2⟩:=he.row hr;exact⟨n,fun i=>(f i).map (rE p q iK),by rw [h1];rfl,h2⟩
   . rw [(he.plain hr).2,List.map_map];refine Xl fun x _=> ?_
     simp [GJ]
   . obtain⟨h1,f,h2⟩:=he.nil hn;exact⟨h1,fun i=>(f i).map (rE p q iK),by rw [h2];rfl⟩
   . have hl:=he.live b hb hz;obtain⟨cs,e,lo,hi,r0,r1,r2,r3,r4,r5,r6⟩:=hl.body;exact⟨hl.low,hl.apart,cs,e,lo,hi,r0,by rw [gv];exact r1,r2,by rw [gv];exact r3,fun k sv hk=>by
      rw [yF]at hk;obtain⟨u,hu,rfl⟩:=Jp.1 hk;exact wU p q iK (r4 k u hu),fun hr=>by rw [gv];exact r5 hr,r6⟩
   . rw [gv]at hk;obtain⟨v,h1,h2⟩:=he.dn b hb hz k hk;refine⟨v,h1,fun sv hs=> ?_⟩;rw [yF]at hs;obtain⟨u,hu,rfl⟩:=Jp.1 hs;have:=wU p q iK (h2 u hu);have e:Own.empty.xq p q=Own.empty:=rfl
     rwa [e]at this
 . intro id hm aD;rw [hmt]at hm;exact hg.fr _ hm aD
 . intro id m hm aD hv;rw [hmt]at hm;exact hg.mY _ m hm aD hv
 . intro id id' m m' b hm hm' hz hz' hb hb';rw [hmt]at hm hm';have:=hg.inj _ _ m m' b hm hm' hz hz' hb hb';rw [<-kH p q id,this,kH]
 . rw [hmt]at h1;rw [hme _ _ h1]at h2;cases h2
 . rw [hmt]at h1;rw [hme _ _ h1]at h3;cases h3
theorem JL {E:Env} (hK: ∀o r,E.K o r) {w:World} {a:Act}: ∀{l:List (Nat×Nat)} {s:bg} {k:bg->Prop},renW l s k->dL E s.get w a-> ∃s':bg,dL E s'.get w a/\k s'
 |[],s,k,h,hs=>⟨s,hs,h⟩
 |(p,q)::r,s,k,h,hs=>by
  simp only [renW]at h;split at h
  case h_2=>exact h.elim
  rename_i hc;simp only [J2,Z1]at hc;rw [bg.force_eq]at h;exact JL hK h (ren_sim hK hc.1.1 hc.1.2 hc.2 hs)
end Go.Sx
namespace Go.Sx
open Go Go.RowKit
variable [bW]
structure Port where
 T : Type
 rd : bg -> (T -> Prop) -> Prop
 ws : bg -> T -> List (Loc × Item)
 all : (T -> Prop) -> Prop
 ok : ∀ s k, rd s k -> ∃ x, k x
 oT : ∀ k, all k -> ∀ x, k x
 fz : List Nat := []
 sw : List (Nat × Nat) := []
def Port.unit :Port:=⟨Unit,fun _ k=>k (),fun _ _=>[],fun k=>k (),fun _ _ h=>⟨_,h⟩,fun _ h _=>h,[],[]⟩
def Port.fz1 (t:Nat):Port:=⟨Unit,fun _ k=>k (),fun _ _=>[],fun k=>k (),fun _ _ h=>⟨_,h⟩,fun _ h _=>h,[t],[]⟩
def Port.sw1 (a b:Nat):Port:=⟨Unit,fun _ k=>k (),fun _ _=>[],fun k=>k (),fun _ _ h=>⟨_,h⟩,fun _ h _=>h,[],[(a,b)]⟩
def Port.pair (p q:Port):Port where
 T:=p.T×q.T
 rd s k:=p.rd s fun x=>q.rd s fun y=>k (x,y)
 ws s x:=match x with|(x,y)=>p.ws s x++q.ws s y
 all k:=p.all fun x=>q.all fun y=>k (x,y)
 fz:=p.fz++q.fz
 sw:=p.sw++q.sw
 ok s k h:=by
  obtain⟨x,h⟩:=p.ok _ _ h;obtain⟨y,h⟩:=q.ok _ _ h;exact⟨(x,y),h⟩
 oT k h x:=by obtain⟨x,y⟩:=x;exact q.oT _ (p.oT _ h x) y
def Ao (s:bg) (l:Loc) (k:SV->Prop):Prop:=match s.get l with
 | .v x=>k x
 | .s (.s x)=>k x
 |_=>False
def P2 (l:Loc) (x:SV):Item:=match l with
 | .sg _ _=> .s (.s x)
 |_=> .v x
theorem rj {s:bg} {l:Loc} {k:SV->Prop} (h:Ao s l k): ∃x,k x:=by
 unfold Ao at h;split at h
 . exact⟨_,h⟩
 . exact⟨_,h⟩
 . exact h.elim
def Port.int (ik:IntKind) (l:Loc):Port where
 T:=Int
 rd s k:=Ao s l fun| .int _ n=>k n|_=>False
 ws _ n:=[(l,P2 l (.int ik n))]
 all k:= ∀n,k n
 ok s k h:=by
  obtain⟨x,h⟩:=rj h;split at h
  . exact⟨_,h⟩
  . exact h.elim
 oT k h x:=h x
def Port.bool (l:Loc):Port where
 T:=Bool
 rd s k:=Ao s l fun| .bool n=>k n| .tt=>k true| .ff=>k false|_=>False
 ws _ n:=[(l,P2 l (.bool n))]
 all k:= ∀n,k n
 ok s k h:=by
  obtain⟨x,h⟩:=rj h;split at h
  . exact⟨_,h⟩
  . exact⟨_,h⟩
  . exact⟨_,h⟩
  . exact h.elim
 oT k h x:=h x
def Port.str (l:Loc):Port where
 T:=List UInt8
 rd s k:=Ao s l fun| .str n=>k n|_=>False
 ws _ n:=[(l,P2 l (.str n))]
 all k:= ∀n,k n
 ok s k h:=by
  obtain⟨x,h⟩:=rj h;split at h
  . exact⟨_,h⟩
  . exact h.elim
 oT k h x:=h x
def Port.aI (E:Type) (es:Nat) (enc:E->List SV) (dec:List SV->E) (l:Loc):Port where
 T:=Nat×(Nat->E)
 rd s k:=Ao s l fun| .aI _ n f=>k (n,fun j=>dec (f j))| .aq=>k (0,fun _=>dec [])|_=>False
 ws _ x:=match x with|(n,g)=>[(l,P2 l (.aI es n fun j=>enc (g j)))]
 all k:= ∀n g,k (n,g)
 ok s k h:=by
  obtain⟨x,h⟩:=rj h;split at h
  . exact⟨_,h⟩
  . exact⟨_,h⟩
  . exact h.elim
 oT k h x:=by obtain⟨n,g⟩:=x;exact h n g
def Port.row (E:Type) (id es:Nat) (e:TypeId) (enc:E->List SV) (dec:List SV->E) (at_:List Loc):Port where
 T:=Nat×(Nat->E)
 rd s k:=match s.get (.sg id 0)with| .s (.a n _ f)=>k (n,fun j=>dec (f j))|_=>k (0,fun _=>dec [])
 ws s x:=match x with
  |(n,g)=>match s.get (.mt id)with
   | .m (some m)=>(.sg id 0, .s (.a n es fun j=>enc (g j)))::at_.map fun l=>(l,P2 l (.sl id m.aD 0 n))
   |_=>(.mt id, .m (some ⟨0,false,true,some e,1,es,[]⟩))::(.sg id 0, .s (.a n es fun j=>enc (g j)))::at_.map fun l=>(l,P2 l (.sl id 0 0 n))
 all k:= ∀n g,k (n,g)
 ok s k h:=by
  split at h
  . exact⟨_,h⟩
  . exact⟨_,h⟩
 oT k h x:=by obtain⟨n,g⟩:=x;exact h n g
structure kM where
 p0 : Port
 p : Port
 I : p0.T -> p.T -> Prop
 μ : p0.T -> p.T -> Nat
def Hr :List Oper->List Nat->List Nat
 |[],l=>l
 |o::r,l=>match o.dst with
  |some d=>Hr r (d::l)
  |none=>Hr r l
def Dz :Code->List Nat->List Nat
 | .seq a b,l=>Dz a (Dz b l)
 | .cond _ a b,l=>Dz a (Dz b l)
 | .block _ c,l=>Dz c l
 | .loop c,l=>Dz c l
 | .scope c,l=>Dz c l
 | .region _ ops _,l=>Hr ops.toList l
 |_,l=>l
def oN :Code->Nat
 | .seq a b=>oN a+oN b
 | .cond _ a b=>oN a+oN b
 | .block _ c=>oN c
 | .loop c=>oN c+1
 | .scope c=>oN c
 |_=>0
def clrs (l:List Nat):List (Loc×Item):=l.map fun t=>(.tm t, .v .any)
def XS (s:bg) (ws:List (Loc×Item)) (k:bg->Prop):Prop:=ux s ws fun s=>s.force k
def bg.wr (s:bg) (ws:List (Loc×Item)):bg:=(s.apply ws).getD s
theorem DQ : ∀{ws:List (Loc×Item)} {s:bg} {k:bg->Prop},ux s ws k->k (s.wr ws)
 |[],_,_,h=>h
 |(l,x)::r,s,k,h=>by
  obtain⟨s1,h1,h2⟩:=bg.uT h;have:=DQ (ws:=r) h2;cases h3:s1.apply r with
  |none=>
   have:s.wr ((l,x)::r)=s:=by simp [bg.wr,bg.apply,h1,h3]
   exfalso;have hh: ∀{ws:List (Loc×Item)} {s:bg} {k:bg->Prop},ux s ws k->s.apply ws≠none:=by
    intro ws
    induction ws with
    |nil=>intro s k _ hc;simp [bg.apply]at hc
    |cons y r ih=>
     intro s k h;obtain⟨l,x⟩:=y;obtain⟨s1,h1,h2⟩:=bg.uT h;simp only [bg.apply,h1];exact ih h2
   exact hh h2 h3
  |some s2=>
   have e:s.wr ((l,x)::r)=s1.wr r:=by simp [bg.wr,bg.apply,h1,h3]
   rw [e];exact this
theorem Cj {ws:List (Loc×Item)} {s:bg} {k:bg->Prop} (h:XS s ws k):k (s.wr ws):=by
 have:=DQ h
 rwa [bg.force_eq]at this
def rdMk :List Operand->Nat->Nat
 |[],m=>m
 | .tmp t::r,m=>rdMk r (m|||(1<<<t))
 |_::r,m=>rdMk r m
def Zq (m d:Nat):Nat:=match Nat.beq ((m>>>d)%2) 0 with
 |true=>m
 |false=>m-(1<<<d)
def Ua :List Oper->Nat->Nat
 |[],m=>m
 |o::r,m=>rdMk o.op.operands.toList (match o.guard,o.dst with
  |none,some d=>Zq (Ua r m) d
  |_,_=>Ua r m)
def rP (q:Nat):Code->Nat->(Nat->Nat)->Nat
 | .seq a b,m,e=>rP q a (rP q b m e) e
 | .cond c a b,m,e=>rdMk [c] (rP q a m e|||rP q b m e)
 | .block id c,m,e=>rP q c m fun i=>match Nat.beq i id with|true=>m|false=>e i
 | .loop c,_,e=>rP q c 0 e
 | .scope c,m,e=>rP q c m e
 | .region _ ops _,m,_=>Ua ops.toList m
 | .exit i,_,e=>e i
 | .ret,_,_=>q
 |_,m,_=>m
def we (q:Nat):Code->Nat->(Nat->Nat)->List Nat
 | .seq a b,m,e=>we q a (rP q b m e) e++we q b m e
 | .cond _ a b,m,e=>we q a m e++we q b m e
 | .block id c,m,e=>we q c m fun i=>match Nat.beq i id with|true=>m|false=>e i
 | .scope c,m,e=>we q c m e
 | .loop c,_,e=>rP q c 0 e::we q c (rP q c 0 e) e
 |_,_,_=>[]
def resM :List ResultVar->Nat
 |[]=>0
 | .tmp t::r=>resM r|||(1<<<t)
 | .cell t _::r=>resM r|||(1<<<t)
def UY :List kM->List Nat->List (kM×Nat)
 |a::r,[]=>(a,0)::UY r []
 |a::r,m::l=>(a,m)::UY r l
 |[],_=>[]
def ZB (m:Nat):Nat->List Nat->List Nat
 |0,l=>l
 |n+1,l=>ZB m n (match Nat.beq ((m>>>n)%2) 0 with|true=>n::l|false=>l)
def dedA (m N:Nat) (l:List Nat):List Nat:=match m with
 |0=>l
 |k+1=>ZB (Nat.succ k) N l
def oV (X:Ctx):Code->List (kM×Nat)->bg->(bg->Prop)->(Nat->bg->Prop)->(bg->Prop)->Prop
 | .skip,_,s,kn,_,_=>kn s
 | .label _,_,s,kn,_,_=>kn s
 | .seq a b,A,s,kn,kx,kr=>oV X a A s (fun s=>oV X b (A.drop (oN a)) s kn kx kr) kx kr
 | .cond c a b,A,s,kn,kx,kr=>IV c s (fun s=>oV X a A s kn kx kr) (fun s=>oV X b (A.drop (oN a)) s kn kx kr)
 | .block id c,A,s,kn,kx,kr=>oV X c A s kn (fun i s=>match Nat.beq i id with|true=>kn s|false=>kx i s) kr
 | .scope c,A,s,kn,kx,kr=>oV X c A s kn kx kr
 | .exit id,_,s,_,kx,_=>kx id s
 | .ret,_,s,_,_,kr=>kr s
 | .region _ ops draw,_,s,kn,_,_=>match FL X.N ops with
  |true=>mJ X ops ops.toList 0 s [] fun s tr=>Lu draw ops tr/\kn s
  |false=>False
 | .loop c,A,s,_,kx,kr=>match A with
  |[]=>False
  |(⟨p0,p,I,μ⟩,lm)::A=>QI p.fz s fun s=>p0.rd s fun x0=>XS s (clrs (dedA lm X.N (Dz c []))) fun s1=>
   (p.rd s fun x=>I x0 x/\XS s1 (p.ws s1 x) fun s2=>Ma s s2)/\
   p.all fun x=>I x0 x->XS s1 (p.ws s1 x) fun s2=>oV X c A s2 (fun s'=>QI p.fz s' fun s'=>renW p.sw s' fun s'=>p.rd s' fun x'=>I x0 x'/\μ x0 x'<μ x0 x/\XS s1 (p.ws s1 x') fun s3=>Ma s' s3) kx kr
 |_,_,_,_,_,_=>False
theorem pU {E:Env} (hK: ∀o r,E.K o r) {X:Ctx} (hN:E.N=X.N) (hC: ∀f c,X.C f=some c->nh X.P f c) (hm:X.P.follows .mixedOrders=true): ∀(c:Code) (A:List (kM×Nat)) (s:bg) (kn:bg->Prop) (kx:Nat->bg->Prop) (kr:bg->Prop),oV X c A s kn kx kr->
 ∀Q:Exit->Act->World->Prop,(∀s:bg,kn s-> ∀a w,dL E s.get w a->Q .normal a w)->(∀(i:Nat) (s:bg),kx i s-> ∀a w,dL E s.get w a->Q (.exit i) a w)->(∀s:bg,kr s-> ∀a w,dL E s.get w a->Q .ret a w)->
 ∀a w,dL E s.get w a->c.wp X.P Q a w:=by
 intro c
 induction c with
 |skip=>intro A s kn kx kr h Q hn hx hr a w hs;exact wp_skip (hn s h a w hs)
 |label l=>intro A s kn kx kr h Q hn hx hr a w hs;exact wp_label (hn s h a w hs)
 |seq x y ihx ihy=>
  intro A s kn kx kr h Q hn hx hr a w hs;exact wp_seq (ihx A s _ _ _ h (Exit.then (y.wp X.P Q) Q) (fun s1 h1 a w hs=>ihy _ s1 _ _ _ h1 Q hn hx hr a w hs) hx hr a w hs)
 |cond c x y ihx ihy=>
  intro A s kn kx kr h Q hn hx hr a w hs;exact EN h hs (fun s1 h1 hs1=>ihx _ s1 _ _ _ h1 Q hn hx hr a w hs1) (fun s1 h1 hs1=>ihy _ s1 _ _ _ h1 Q hn hx hr a w hs1)
 |block id x ih=>
  intro A s kn kx kr h Q hn hx hr a w hs;refine wp_block (ih A s _ _ _ h (Exit.inBlock id Q) hn (fun i s1 h1 a w hs=> ?_) hr a w hs);simp only [Exit.inBlock];split at h1
  . rename_i he;rw [if_pos (Jd he)];exact hn s1 h1 a w hs
  . rename_i he;rw [if_neg (Nat.ne_of_beq_eq_false he)];exact hx i s1 h1 a w hs
 |scope c ih=>intro A s kn kx kr h Q hn hx hr a w hs;exact wp_scope_straight (ih A s kn kx kr h (Exit.noGoto Q) hn hx hr a w hs)
 |exit id=>intro A s kn kx kr h Q hn hx hr a w hs;exact wp_exit (hx id s h a w hs)
 |ret=>intro A s kn kx kr h Q hn hx hr a w hs;exact wp_ret (hr s h a w hs)
 |loop c ih=>
  intro A s kn kx kr h Q hn hx hr a w hs;cases A with
  |nil=>exact h.elim
  |cons A0 A=>
  obtain⟨⟨p0,p,I,μ⟩,lm⟩:=A0;simp only [oV]at h;obtain⟨s,hs,h⟩:=Cf h hs;obtain⟨x0,h⟩:=p0.ok _ _ h;have h:=Cj h;obtain⟨h1,h2⟩:=h;generalize s.wr (clrs (dedA lm X.N (Dz c [])))=s1 at h1 h2;obtain⟨x1,hI,h1⟩:=p.ok _ _ h1;have h1:=Cj h1;have h2:=p.oT _ h2;refine wp_loop_ghost (fun n a w=> ∃x,I x0 x/\μ x0 x=n/\dL E (s1.wr (p.ws s1 x)).get w a) (μ x0 x1) ⟨x1,hI,rfl,DB hK h1 hs⟩ ?_;rintro n a w ⟨x,hI,rfl,hs⟩
  refine ih A _ _ _ _ (Cj (h2 x hI)) (Exit.then _ Q) (fun s2 h3 a w hs=> ?_) hx hr a w hs;obtain⟨s2,hs,h3⟩:=Cf h3 hs;obtain⟨s2,hs,h3⟩:=JL hK h3 hs;obtain⟨x',hI',hlt,h3⟩:=p.ok _ _ h3;exact⟨μ x0 x',hlt,x',hI',rfl,DB hK (Cj h3) hs⟩
 |region id ops draw=>
  intro A s kn kx kr h;exact Hl hN hC hm (.region id ops draw) (.inr hK) s kn kx kr h
 |_=>intro A s kn kx kr h;exact h.elim
def H9 (P:Program) (C:Nat->Option bB) (fn:Func) (code:Code) (A:List kM) (args:List SV) (r:SV):Prop:=
 (mh fn.ntmps args).force fun s=>oV ⟨P,fn.ntmps,C⟩ code (UY A (we (resM fn.results.toList) code (resM fn.results.toList) fun _=>0)) s (Gx P fn r) (fun _ _=>False) (Gx P fn r)
theorem av {P:Program} {T:List (Nat×bB)} (hT:aH P T) {f:Nat} {fn:Func} (hm:P.follows .mixedOrders=true) (hf:P.funcs[f]?=some fn) (hb:fn.body=some (mB fn)) (hname:(fn.name== "runtime.NumGoroutine")=false)
 {α:Type} {n:Nat} {dec:List SV->Option (Prop×α)} {enc:α->List SV} {pre:α->Prop} {res:α->SV} (hd:SX n dec enc) (hn:Nat.ble n fn.ntmps=true) (A:α->List kM) (H: ∀a,pre a->H9 P (WQ T) fn (mB fn) (A a) (enc a) (res a)):aH P ((f,fl dec pre res)::T):=by
 refine⟨⟨⟨fn,hf,by simp [hb],hname⟩,fun args p r hc hp R w vals hR hrel=> ?_⟩,hT⟩;unfold fl at hc;rw [kJ]at hc;split at hc
 case h_2=>cases hc
 rename_i q a ha;simp only [J3,Q4]at hc;obtain⟨rfl,rfl⟩:=hc;obtain⟨h1,h2⟩:=hd _ _ _ ha hp.1;have hvc:=H _ hp.2;unfold H9 at hvc;rw [bg.force_eq]at hvc;exact Rk hf hb (by rw [<-(tW h1).1,h2];exact Qk hn) (fun E hE hK Q hn hx hr a w hs=>pU (E:=E) hK (X:=⟨P,fn.ntmps,WQ T⟩) hE (HP hT) hm _ _ _ _ _ _ hvc Q hn hx hr a w hs) R w vals hR (AW (Kp.none _ _) h1 hrel)
end Go.Sx
namespace Go.Sx
open Go Go.RowKit Go.ChangeShapes Go.WideShapes Go.ChangeAt
variable [bW]
inductive CS : Type
 | int (k : IntKind)
 | bool
 | str
 | sl (ks : List CS)
mutual
def HasK : CS -> SV -> Prop
 | .int k, x => ∃ n, x = .int k n /\ (Lit.int k n).wf = true
 | .bool, x => ∃ b, x = .bool b
 | .str, x => ∃ s, x = .str s /\ s.length <= maxLen
 | .sl ks, x => ∃ n f, x = .aI ks.length n f /\ n <= maxLen /\ ∀ i, i < n -> HasKL ks (f i)
def HasKL : List CS -> List SV -> Prop
 | [], l => l = []
 | k :: ks, l => ∃ x r, l = x :: r /\ HasK k x /\ HasKL ks r
end
def tH (z:TypeId->Option (List CS)) (P:Program) (off:Nat):List Field->Option (List CS)
 |[]=>some []
 |f::fs=>match z f.type with
  |some l=>if f.offset=off/\l.length=P.cellsOf f.type then(tH z P (off+l.length) fs).map (l++ ·)else none
  |none=>none
def shapeOf (P:Program):Nat->TypeId->Option (List CS)
 |0,_=>none
 |d+1,t=>match P.underlying t with
  |some (.int k)=>some [.int k]
  |some .bool=>some [.bool]
  |some .string=>some [.str]
  |some (.slice e)=>match shapeOf P d e with
   |some ks=>if ks.length=P.cellsOf e/\0<ks.length then some [.sl ks]else none
   |none=>none
  |some (.struct fs)=>match tH (shapeOf P d) P 0 fs.toList with
   |some ks=>if ks.length=P.cellsOf t then some ks else none
   |none=>none
  |some (.array n e)=>match shapeOf P d e with
   |some ks=>if ks.length=P.cellsOf e/\n*ks.length=P.cellsOf t then some (List.replicate n ks).flatten else none
   |none=>none
  |_=>none
theorem kc : ∀{ks:List CS} {l:List SV},HasKL ks l->l.length=ks.length
 |[],l,h=>by simp only [HasKL]at h;subst h;rfl
 |k::ks,l,h=>by
  simp only [HasKL]at h;obtain⟨x,r,rfl,_,h⟩:=h;simp [kc h]
theorem ou : ∀{ks ks':List CS} {l l':List SV},HasKL ks l->HasKL ks' l'->HasKL (ks++ks') (l++l')
 |[],ks',l,l',h,h'=>by simp only [HasKL]at h;subst h;exact h'
 |k::ks,ks',l,l',h,h'=>by
  simp only [HasKL]at h;obtain⟨x,r,rfl,hx,h⟩:=h;simp only [K0,HasKL];exact⟨x,_,rfl,hx,ou h h'⟩
theorem qi {ro:RO} {own:Own}: ∀{l l':List SV} {v v':List Value},aQ ro own l v->aQ ro own l' v'->aQ ro own (l++l') (v++v')
 |[],l',[],v',_,h'=>h'
 |x::r,l',y::s,v',h,h'=>⟨h.1,qi h.2 h'⟩
 |[],_,_::_,_,h,_=>h.elim
 |_::_,_,[],_,h,_=>h.elim
def qG (W:World):RO:=fun b o=>W.cell? ⟨b,o,none⟩
theorem mapM_some {α β:Type} {f:α->Option β}: ∀{l:List α} {r:List β},l.mapM f=some r-> ∀a∈l,∃b,f a=some b
 |[],_,_,a,h=>by cases h
 |x::l,r,h,a,ha=>by
  simp only [Xn,Zf,Xe]at h;obtain⟨b,hb,c,hc,_⟩:=h;simp only [Kd]at ha;rcases ha with rfl|ha
  . exact⟨b,hb⟩
  . exact mapM_some hc a ha
theorem BD {W:World} {base n:Nat} {a:Addr} {l:List Value} (h:W.cells? base a n=some l):l.length=n/\ ∀j v,l[j]?=some v->W.cell? (a.add j)=some v:=by
 unfold World.cells? at h;split at h
 case isFalse=>cases h
 have key: ∀(m k:Nat) (l:List Value),(List.range' k m).mapM (fun i=>W.cell? (a.add i))=some l->l.length=m/\ ∀j v,l[j]?=some v->W.cell? (a.add (k+j))=some v:=by
  intro m
  induction m with
  |zero=>intro k l h;simp at h;subst h;simp
  |succ m ih=>
   intro k l h;rw [Z7]at h;simp only [Xn,Zf,Xe,Option.pure_def,J3]at h;obtain⟨b,hb,c,hc,rfl⟩:=h;obtain⟨h1,h2⟩:=ih _ _ hc;refine⟨by simp [h1],fun j v hj=> ?_⟩;cases j with
   |zero=>simp at hj;subst hj;exact hb
   |succ j=>simp at hj;have:=h2 j v hj;rwa [show k+1+j=k+(j+1) by omega]at this
 rw [List.range_eq_range']at h;obtain⟨h1,h2⟩:=key _ _ _ h;exact⟨h1,fun j v hj=>by simpa using h2 j v hj⟩
section
variable {H : Type} {enc : TypeId × Value -> H} {P : Program} {W : World}
theorem wD {z:TypeId->Option (List CS)} {tr:TypeId->List Value->Option (DataW H×List MemPlace)} {cs:List Value} (ih: ∀t c x ks,tr t c=some x->z t=some ks-> ∃svs,HasKL ks svs/\aQ (qG W) Own.empty svs c):
 ∀(fs:List Field) (off:Nat) (r:List (DataW H×List MemPlace)) (ks:List CS),fs.mapM (fun f=>tr f.type ((cs.drop f.offset).take (P.cellsOf f.type)))=some r->tH z P off fs=some ks->off+ks.length=cs.length-> ∃svs,HasKL ks svs/\aQ (qG W) Own.empty svs (cs.drop off)
 |[],off,r,ks,_,hk,hl=>by
  simp [tH]at hk;subst hk;refine⟨[],rfl,?_⟩;simp at hl;rw [Yf (by omega)];trivial
 |f::fs,off,r,ks,h,hk,hl=>by
  simp only [Xn,Zf,Xe]at h;obtain⟨b,hb,c,hc,_⟩:=h;simp only [tH]at hk;split at hk
  case h_2=>cases hk
  rename_i l hz;split at hk
  case isFalse=>cases hk
  rename_i ho;obtain⟨ho,hn⟩:=ho;simp only [Jp]at hk;obtain⟨ks',hk',rfl⟩:=hk;obtain⟨s1,h1,h2⟩:=ih _ _ _ _ hb hz;simp at hl;obtain⟨s2,h3,h4⟩:=wD ih fs (off+l.length) c ks' hc hk' (by omega);refine⟨s1++s2,ou h1 h3,?_⟩;have e:cs.drop off=(cs.drop off).take l.length++cs.drop (off+l.length):=by
   rw [<-List.drop_drop,Xb]
  rw [e];rw [ho,<-hn]at h2;exact qi h2 h4
theorem zF {tr:List Value->Option (DataW H×List MemPlace)} {cs:List Value} {ks:List CS} (ih: ∀c x,tr c=some x-> ∃svs,HasKL ks svs/\aQ (qG W) Own.empty svs c):
 ∀(n k:Nat) (r:List (DataW H×List MemPlace)),(List.range' k n).mapM (fun i=>tr ((cs.drop (i*ks.length)).take ks.length))=some r->(k+n)*ks.length=cs.length-> ∃svs,HasKL (List.replicate n ks).flatten svs/\aQ (qG W) Own.empty svs (cs.drop (k*ks.length))
 |0,k,r,_,hl=>by
  refine⟨[],by simp [HasKL],?_⟩;rw [Yf (by simp at hl;omega)];trivial
 |n+1,k,r,h,hl=>by
  rw [Z7]at h;simp only [Xn,Zf,Xe]at h;obtain⟨b,hb,c,hc,_⟩:=h;obtain⟨s1,h1,h2⟩:=ih _ _ hb;obtain⟨s2,h3,h4⟩:=zF ih n (k+1) c hc (by rw [<-hl];congr 1;omega);refine⟨s1++s2,by rw [Qy,List.flatten_cons];exact ou h1 h3,?_⟩;have e:cs.drop (k*ks.length)=(cs.drop (k*ks.length)).take ks.length++cs.drop ((k+1)*ks.length):=by
   rw [Ji,Nat.one_mul,<-List.drop_drop,Xb]
  rw [e];exact qi h2 h4
theorem trod_int {fuel:Nat} {t:TypeId} {k:IntKind} {cs:List Value} {x:DataW H×List MemPlace} (hu:P.underlying t=some (.int k)) (h:DataW.trod enc P W 0 (fun _=>true) true (fuel+1) t cs=some x): ∃n,cs=[.int k n]/\(Lit.int k n).wf=true:=by
 unfold DataW.trod at h;split at h<;>first|(exfalso;simp_all;done)|skip
 rename_i k1 k2 n e;rw [hu]at e;cases e;split at h
 case isFalse=>cases h
 rename_i hk;obtain⟨rfl,hw⟩:=hk;exact⟨n,rfl,hw⟩
theorem trod_bool {fuel:Nat} {t:TypeId} {cs:List Value} {x:DataW H×List MemPlace} (hu:P.underlying t=some .bool) (h:DataW.trod enc P W 0 (fun _=>true) true (fuel+1) t cs=some x): ∃n,cs=[.bool n]:=by
 unfold DataW.trod at h;split at h<;>first|(exfalso;simp_all;done)|skip
 exact⟨_,rfl⟩
theorem Oj {fuel:Nat} {t:TypeId} {cs:List Value} {x:DataW H×List MemPlace} (hu:P.underlying t=some .string) (h:DataW.trod enc P W 0 (fun _=>true) true (fuel+1) t cs=some x): ∃n:ByteArray,cs=[.string n]/\n.size<=maxLen:=by
 unfold DataW.trod at h;split at h<;>first|(exfalso;simp_all;done)|skip
 split at h
 case isFalse=>cases h
 exact⟨_,rfl, ‹_›⟩
theorem Rf {fuel:Nat} {t e:TypeId} {cs:List Value} {x:DataW H×List MemPlace} (hu:P.underlying t=some (.slice e)) (h:DataW.trod enc P W 0 (fun _=>true) true (fuel+1) t cs=some x):
 cs=[.slice none 0 0]\/ ∃a len cap,cs=[.slice (some a) len cap]/\len<=cap/\cap<=maxLen/\ ∀i,i<len-> ∃l y,W.cells? 0 (a.add (i*P.cellsOf e)) (P.cellsOf e)=some l/\DataW.trod enc P W 0 (fun _=>true) true fuel e l=some y:=by
 unfold DataW.trod at h;split at h<;>first|(exfalso;simp_all;done)|skip
 . exact .inl rfl
 . rename_i e' a len cap he;rw [hu]at he;cases he;split at h
   case isFalse=>cases h
   rename_i hc;simp only [Xe]at h;obtain⟨elems,hel,_⟩:=h;refine .inr ⟨a,len,cap,rfl,hc.2.1,hc.2.2,fun i hi=> ?_⟩;obtain⟨b,hb⟩:=mapM_some hel i (by simpa using hi);simp only [Xe]at hb;obtain⟨l,hl,hb⟩:=hb;exact⟨l,b,hl,hb⟩
theorem trod_struct {fuel:Nat} {t:TypeId} {fs:Array Field} {cs:List Value} {x:DataW H×List MemPlace} (hu:P.underlying t=some (.struct fs)) (h:DataW.trod enc P W 0 (fun _=>true) true (fuel+1) t cs=some x):
 cs.length=P.cellsOf t/\ ∃r,fs.toList.mapM (fun f=>DataW.trod enc P W 0 (fun _=>true) true fuel f.type ((cs.drop f.offset).take (P.cellsOf f.type)))=some r:=by
 unfold DataW.trod at h;split at h<;>first|(exfalso;simp_all;done)|skip
 rename_i e;rw [hu]at e;cases e;split at h
 case isFalse=>cases h
 rename_i hl;simp only [Jp]at h;obtain⟨r,hr,_⟩:=h;exact⟨hl,r,hr⟩
theorem trod_array {fuel:Nat} {t e:TypeId} {n:Nat} {cs:List Value} {x:DataW H×List MemPlace} (hu:P.underlying t=some (.array n e)) (h:DataW.trod enc P W 0 (fun _=>true) true (fuel+1) t cs=some x):
 cs.length=P.cellsOf t/\ ∃r,(List.range n).mapM (fun i=>DataW.trod enc P W 0 (fun _=>true) true fuel e ((cs.drop (i*P.cellsOf e)).take (P.cellsOf e)))=some r:=by
 unfold DataW.trod at h;split at h<;>first|(exfalso;simp_all;done)|skip
 rename_i e;rw [hu]at e;cases e;split at h
 case isFalse=>cases h
 rename_i hl;simp only [Jp]at h;obtain⟨r,hr,_⟩:=h;exact⟨hl,r,hr⟩
theorem H2 : ∀(fuel d:Nat) (t:TypeId) (cs:List Value) (x:DataW H×List MemPlace) (ks:List CS),DataW.trod enc P W 0 (fun _=>true) true fuel t cs=some x->shapeOf P d t=some ks-> ∃svs,HasKL ks svs/\aQ (qG W) Own.empty svs cs:=by
 intro fuel
 induction fuel with
 |zero=>intro d t cs x ks h;simp [DataW.trod]at h
 |succ fuel ih=>
  intro d t cs x ks h hs;cases d with
  |zero=>simp [shapeOf]at hs
  |succ d=>
  simp only [shapeOf]at hs;split at hs
  . rename_i k hu;cases hs;obtain⟨n,rfl,hw⟩:=trod_int hu h;exact⟨[.int _ _],by simp only [HasKL,HasK];exact⟨_,_,rfl,⟨_,rfl,hw⟩,rfl⟩, .int _ _ _,trivial⟩
  . rename_i hu;cases hs;obtain⟨n,rfl⟩:=trod_bool hu h;exact⟨[.bool _],by simp only [HasKL,HasK];exact⟨_,_,rfl,⟨_,rfl⟩,rfl⟩, .bool _ _,trivial⟩
  . rename_i hu;cases hs;obtain⟨s,rfl,hk⟩:=Oj hu h;refine⟨[.str s.data.toList],by simp only [HasKL,HasK];exact⟨_,_,rfl,⟨_,rfl,by simpa using hk⟩,rfl⟩,?_,trivial⟩;have:=Rel.str (ro:=qG W) Own.empty s.data.toList;simpa using this
  . rename_i e hu;split at hs
    case h_2=>cases hs
    rename_i ks' hks;split at hs
    case isFalse=>cases hs
    rename_i hlen;obtain⟨hlen,hes⟩:=hlen;cases hs;rcases Rf hu h with rfl|⟨a,len,cap,rfl,hlc,hcm,hE0⟩
    . exact⟨[.aI ks'.length 0 fun _=>[]],by simp only [HasKL,HasK];exact⟨_,_,rfl,⟨_,_,rfl,X0 _,fun i hi=>by omega⟩,rfl⟩, .fe _ _ _ _ _ _ rfl,trivial⟩
    . have hE: ∀i,i<len-> ∃l svs,W.cells? 0 (a.add (i*P.cellsOf e)) (P.cellsOf e)=some l/\HasKL ks' svs/\aQ (qG W) Own.empty svs l:=by
       intro i hi;obtain⟨l,y,hl,hb⟩:=hE0 i hi;obtain⟨svs,h1,h2⟩:=ih _ _ _ _ _ hb hks;exact⟨l,svs,hl,h1,h2⟩
      by_cases hz:len=0
      . subst hz;exact⟨[.aI ks'.length 0 fun _=>[]],by simp only [HasKL,HasK];exact⟨_,_,rfl,⟨_,_,rfl,X0 _,fun i hi=>by omega⟩,rfl⟩, .fe _ _ _ _ _ _ rfl,trivial⟩
      . have hpos:0<len/\0<ks'.length:=⟨by omega,hes⟩;obtain⟨b,off,spot⟩:=a;have hspot:spot=none:=by
         obtain⟨l,svs,hl,h1,_⟩:=hE 0 hpos.1;obtain⟨e1,e2⟩:=BD hl;have:=e2 0 _ (J4 (by rw [e1,<-hlen];exact hpos.2));simpa [Addr.add]using World.cell?_spot this
        subst hspot;have hch: ∀i,∃svs,i<len-> ∃l,W.cells? 0 ((⟨b,off,none⟩:Addr).add (i*P.cellsOf e)) (P.cellsOf e)=some l/\HasKL ks' svs/\aQ (qG W) Own.empty svs l:=fun i=>by
         by_cases hi:i<len
         . obtain⟨l,svs,h1,h2,h3⟩:=hE i hi;exact⟨svs,fun _=>⟨l,h1,h2,h3⟩⟩
         . exact⟨[],fun h=>absurd h hi⟩
        obtain⟨f,hf⟩:=Classical.axiomOfChoice hch;refine⟨[.aI ks'.length len f],by simp only [HasKL,HasK];exact⟨_,_,rfl,⟨_,_,rfl,by omega,fun i hi=>by obtain⟨l,_,h2,_⟩:=hf i hi;exact h2⟩,rfl⟩,?_,trivial⟩;have cellat: ∀i j,i<len->j<ks'.length-> ∃v sv,W.cell? ⟨b,off+(i*ks'.length+j),none⟩=some v/\(f i)[j]?=some sv/\Rel (qG W) Own.empty sv v:=by
         intro i j hi hj;obtain⟨l,h1,h2,h3⟩:=hf i hi;obtain⟨e1,e2⟩:=BD h1;have hj2:j<(f i).length:=by rw [kc h2];exact hj
         obtain⟨v,hv,hr⟩:=h3.at j _ (J4 hj2);refine⟨v,_,?_,J4 hj2,hr⟩;have:=e2 j v hv;rw [<-hlen,dU,dU,Kt]at this;exact this
        refine .aI _ _ _ _ b off cap (fun k=>(W.cell? ⟨b,off+k,none⟩).getD undef) hlc (fun i hi=>by obtain⟨l,_,h2,_⟩:=hf i hi;exact kc h2) (fun k hk=> ?_) (fun i j sv hi hj=> ?_)
        . have h1:k/ks'.length<len:=by rw [K9 hpos.2];exact hk
          obtain⟨v,sv,hv,_⟩:=cellat (k/ks'.length) (k%ks'.length) h1 (Ki _ hpos.2);rw [Km,Q5]at hv;simp [qG,hv]
        . have hj2:j<ks'.length:=by
           obtain⟨l,_,h2,_⟩:=hf i hi;rw [<-kc h2];exact(Jb.1 hj).1
          obtain⟨v,sv',hv,hs',hr⟩:=cellat i j hi hj2;rw [hs']at hj;cases hj;simp [hv,hr]
  . rename_i fs hu;split at hs
    case h_2=>cases hs
    rename_i ks' hks;split at hs
    case isFalse=>cases hs
    rename_i hlen;cases hs;obtain⟨h1,r,h2⟩:=trod_struct hu h;have:=wD (W:=W) (fun t c x ks h1 h2=>ih d t c x ks h1 h2) fs.toList 0 r _ h2 hks (by omega);simpa using this
  . rename_i n e hu;split at hs
    case h_2=>cases hs
    rename_i ks' hks;split at hs
    case isFalse=>cases hs
    rename_i hlen;cases hs;obtain⟨h1,r,h2⟩:=trod_array hu h;rw [<-hlen.1,List.range_eq_range']at h2;have:=zF (W:=W) (fun c x h=>ih d e c x ks' h hks) n 0 r h2 (by rw [h1,<-hlen.2];simp);simpa using this
  . cases hs
def ML (agg:Bool) (l:List SV):SV:=match agg with
 |true=> .agg (l.map .s)
 |false=>l.headD .any
def kD (P:Program):List TypeId->List SV->Prop
 |[],xs=>xs=[]
 |t::ts,xs=> ∃ks agg svs r,shapeOf P 9 t=some ks/\bZ P t=some agg/\HasKL ks svs/\xs=ML agg svs::r/\kD P ts r
theorem Pe {t:TypeId} {v:Value} {d:DataW H} {ps:List MemPlace} {base:Nat} {ks:List CS} {agg:Bool} (hval:Value.okWide P W .any base t v) (hd:DataW.Trod enc P W 0 (fun _=>true) true t v d ps) (hs:shapeOf P 9 t=some ks) (ha:bZ P t=some agg):
 ∃svs,HasKL ks svs/\Rel (qG W) Own.empty (ML agg svs) v:=by
 obtain⟨fuel,hf⟩:=hd;obtain⟨svs,h1,h2⟩:=H2 fuel 9 t _ _ ks hf hs;refine⟨svs,h1,?_⟩;have hlen:=h2.length;unfold bZ at ha;unfold Value.okWide at hval;cases agg with
 |true=>
  have: ∃cs,v= .agg cs:=by
   split at ha
   . rename_i hu;rw [hu]at hval;obtain⟨cs,h,_⟩:=hval;exact⟨cs,h⟩
   . rename_i hu;rw [hu]at hval;obtain⟨cs,h,_⟩:=hval;exact⟨cs,h⟩
   . cases ha
   . cases ha
  obtain⟨cs,rfl⟩:=this;simp only [Value.cells]at h2 hlen;refine .agg _ _ _ (by rw [fY,hlen];simp) fun k sv hk=> ?_
  rw [lj]at hk;obtain⟨u,hu,hr⟩:=h2.at k sv hk;simp only [Xp]at hu;simpa [hu]using hr
 |false=>
  have hna: ∀cs,v≠ .agg cs:=by
   rintro cs rfl;split at ha
   . cases ha
   . cases ha
   . rename_i n1 n2 hu;simp only [hu]at hval;unfold shapeOf at hs;rw [hu]at hs;unfold Cell.okWide at hval;split at hs<;>simp_all [Cell.ok]
   . cases ha
  have hc:v.cells.toList=[v]:=by
   unfold Value.cells;split
   . exact absurd rfl (hna _)
   . rfl
  rw [hc]at h2 hlen
  match svs,h2 with
  |[x],h2=>exact h2.1
theorem BN {base:Nat}: ∀{ts:List TypeId} {vs:List Value} {ds:List (DataW H)} {ps:List MemPlace},DataW.TrodAll enc P W 0 (fun _=>true) true ts vs ds ps->(∀(j:Nat) t v,ts[j]?=some t->vs[j]?=some v->Value.okWide P W .any base t v)->
 (ts.all fun t=>(shapeOf P 9 t).isSome&&(bZ P t).isSome)=true-> ∃xs,kD P ts xs/\aQ (qG W) Own.empty xs vs
 |[],vs,ds,ps,h,_,_=>by
  obtain⟨rfl,_,_⟩:=trodAll_nil h;exact⟨[],rfl,trivial⟩
 |t::ts,vs,ds,ps,h,hv,ht=>by
  obtain⟨v,vs',d,ds',p,q,rfl,rfl,rfl,h1,h2⟩:=trodAll_cons h;simp only [List.all_cons,J2,Qi]at ht;obtain⟨⟨⟨ks,hk⟩,⟨agg,ha⟩⟩,ht⟩:=ht;obtain⟨svs,g1,g2⟩:=Pe (hv 0 t v rfl rfl) h1 hk ha;obtain⟨xs,g3,g4⟩:=BN h2 (fun j t v h1 h2=>hv (j+1) t v (by simpa using h1) (by simpa using h2)) ht;exact⟨_,⟨ks,agg,svs,xs,hk,ha,g1,rfl,g3⟩,g2,g4⟩
theorem AF (hl:laidOutB P=true) {W W':World} (Iv:Below W.heap.size W W'): ∀{ts:List TypeId} {vs:List Value} {ds:List (DataW H)} {ps:List MemPlace},DataW.TrodAll enc P W 0 (fun _=>true) true ts vs ds ps->
 (ts.all fun t=>P.readableRec t&&decide (t<P.types.size))=true->DataW.TrodAll enc P W' 0 (fun b=>decide (b<W.heap.size)) true ts vs ds ps
 |[],vs,ds,ps,h,_=>by
  obtain⟨rfl,rfl,rfl⟩:=trodAll_nil h;exact rfl
 |t::ts,vs,ds,ps,h,ht=>by
  obtain⟨v,vs',d,ds',p,q,rfl,rfl,rfl,h1,h2⟩:=trodAll_cons h;simp only [List.all_cons,J2,decide_eq_true_eq]at ht;refine trodAll_cons_mk (Below.trod hl ht.1.1 ht.1.2 h1 Iv ?_) (AF hl Iv h2 ht.2);obtain⟨m,hm⟩:=h1;exact DataW.trod_lt m _ _ _ hm
end
theorem GV {C:Checked} {os:Os} (started:os.Started) {H:Type} {enc:TypeId×Value->H} {f:FuncId} {fn:Func} {s:ChangeSpec} {tb:TypeId} (own:ownKnob C.prog.godebug=none) (hl:laidOutB C.prog=true) (noInit:C.prog.inits.idxOf? f=none) (hfn:C.prog.funcs[f]?=some fn)
 (hvars:s.vars=[]) (hres:fn.resultTypes= #[tb]) (hb:C.prog.underlying tb=some .bool)
 (hspec: ∀ds:List (DataW H),ds.length=fn.params.toList.length->s.fn H ds={results:=[.lit (.bool true)],args:=ds})
 (hts:(fn.params.toList.all fun t=>(shapeOf C.prog 9 t).isSome&&(bZ C.prog t).isSome)=true) (hts2:(fn.params.toList.all fun t=>C.prog.readableRec t&&decide (t<C.prog.types.size))=true)
 (witness: ∃(w:World) (tape:Tape) (i:Input),w.os=os/\(w.forCall tape i).Shaped C.prog/\i.vars=[]/\Input.okWide C.prog (w.forCall tape i) .any w.heap.size f i/\
  s.pre6 enc C.prog fn [] false (w.forCall tape i).memory i.args/\({}:Assume).holds C.prog (lone (Frame.enter C.prog f i.args .normal) [] (w.forCall tape i)))
 (hcall: ∀(W:World) (xs:List SV) (args:Array Value),kD C.prog fn.params.toList xs->aQ (qG W) Own.empty xs args.toList->Calls C.prog f args W fun e W'=> ∃v R',e= .returned v/\Rel R' Own.empty .tt v/\ga (qG W) R'/\(∀b o v,R' b o=some v->W'.cell? ⟨b,o,none⟩=some v)/\(∀b o,b<W.heap.size->R' b o=(qG W) b o)/\Below W.heap.size W W'):
 ReturnsInHanded {} C os f .any (s.pre6 enc C.prog fn [] false) (s.post enc C.prog fn false true false false):=by
 refine returnsInHanded_of_change (C:=C) own started noInit hfn witness ?_;intro W base args ds gs before hval hW _ _;have hW':=hW;obtain⟨p,q,hA,hV,rfl,_,_⟩:=hW;rw [hvars]at hV;obtain⟨rfl,rfl⟩:=trodVars_none hV;have hlen:ds.length=fn.params.toList.length:=by
  have: ∀{ts:List TypeId} {vs:List Value} {ds:List (DataW H)} {ps:List MemPlace},DataW.TrodAll enc C.prog W 0 (fun _=>true) true ts vs ds ps->ds.length=ts.length:=by
   intro ts
   induction ts with
   |nil=>intro vs ds ps h;obtain⟨_,rfl,_⟩:=trodAll_nil h;rfl
   |cons t ts ih=>
    intro vs ds ps h;obtain⟨v,vs',d,ds',p,q,rfl,rfl,rfl,h1,h2⟩:=trodAll_cons h;simp [ih h2]
  exact this hA
 obtain⟨xs,h1,h2⟩:=BN hA (fun j t v ht hv=>hval j t v (by simpa using ht) (by simpa using hv)) hts;refine(hcall W xs args h1 h2).mono fun e W' ⟨v,R',he,hr,_,_,_,Iv⟩=> ?_
 subst he;have hv:v= .bool true:=by cases hr;rfl
 subst hv;refine⟨_,rfl,ds,[],_,[],p,[],hW',?_,?_,?_,Iv.frame _,fun h=>by cases h⟩
 . rw [Kw,hspec ds hlen,hres];exact trodAll_mk1 (shut_bool hb _)
 . rw [Kw,hspec ds hlen];exact AF hl Iv hA hts2
 . rw [hvars,Kw,hspec ds hlen];exact rfl
end Go.Sx
namespace Go.Sx
open Go Go.RowKit
variable [bW]
structure wN (α : Type) where
 n : Nat
 enc : α -> List SV
 dec : List SV -> Option α
 qW : α
 ak : List SV -> Prop
 ok : ∀ l a, dec l = some a -> ak l -> bK l (enc a)
 self : ∀ a, dec (enc a) = some a
 kW : ∀ a, ak (enc a)
 len : ∀ a, (enc a).length = n
 Aa : ∀ (c : Bool) x y a b, dec x = some a -> dec y = some b -> dec (af c x y) = some (if c then a else b)
@[simp] theorem isT :ru true↔True:=⟨fun _=>trivial,fun _=>⟨rfl⟩⟩
def rI (ik:IntKind) (x:SV):Option Int:=match x with
 | .int k n=>if k=ik then some n else none
 |_=>none
def rB (x:SV):Option Bool:=match x with
 | .bool b=>some b
 | .tt=>some true
 | .ff=>some false
 |_=>none
def rS (x:SV):Option (List UInt8):=match x with
 | .str s=>some s
 |_=>none
def oB {α β:Type} (o:Option α) (k:α->Option β):Option β:=match o with
 |some a=>k a
 |none=>none
theorem gQ {α β:Type} {o:Option α} {k:α->Option β} {b:β} (h:oB o k=some b): ∃a,o=some a/\k a=some b:=by
 unfold oB at h;split at h
 . exact⟨_,rfl,h⟩
 . cases h
theorem Fk {ik:IntKind} {x:SV} {n:Int} (h:rI ik x=some n):x= .int ik n:=by
 unfold rI at h;split at h
 . split at h
   . rename_i e;cases h;rw [e]
   . cases h
 . cases h
theorem IC {x:SV} {b:Bool} (h:rB x=some b):DM x (.bool b)/\(x= .bool b\/(b=true/\x= .tt)\/(b=false/\x= .ff)):=by
 unfold rB at h;split at h<;>cases h
 . exact⟨rfl, .inl rfl⟩
 . exact⟨rfl, .inr (.inl ⟨rfl,rfl⟩)⟩
 . exact⟨rfl, .inr (.inr ⟨rfl,rfl⟩)⟩
theorem rS_ok {x:SV} {s:List UInt8} (h:rS x=some s):x= .str s:=by
 unfold rS at h;split at h<;>cases h;rfl
theorem RY {ik:IntKind} {x:SV} {n:Int} (h:rI ik x=some n):xC x (.int ik n):=by rw [Fk h];exact aL.2 ⟨by simp,rfl⟩
theorem BK {x y:SV} (h:pg x y):Dt x y:=by
 unfold Dt;split
 . simp [pg]at h
 . simp [pg]at h
 . exact h
theorem wj : ∀{a b:List SV},Im a b->BE a b
 |[],[],_=>trivial
 |_::_,_::_,h=>⟨BK h.1,wj h.2⟩
 |[],_::_,h=>h.elim
 |_::_,[],h=>h.elim
theorem Ld {x y:SV} (h:Dt x y):xC x y:=by
 unfold xC;split
 . exact aL.2 ⟨(aL.1 h).1,(aL.1 h).2.1,fun i hi=>wj ((aL.1 h).2.2 i hi)⟩
 . exact h
 . unfold Dt at h;split at h
   . rename_i hh _;exact(hh _ _ _ _ _ _ rfl rfl).elim
   . rename_i hh;exact(hh _ _ _ rfl rfl).elim
   . exact h
theorem pD : ∀{a b:List SV},BE a b->oP a b
 |[],[],_=>trivial
 |_::_,_::_,h=>⟨Ld h.1,pD h.2⟩
 |[],_::_,h=>h.elim
 |_::_,[],h=>h.elim
theorem NR {x y:SV} (h:xC x y):DM x y:=by
 unfold DM;split
 . exact aL.2 ⟨(aL.1 h).1,(aL.1 h).2.1,fun i hi=>pD ((aL.1 h).2.2 i hi)⟩
 . exact h
 . unfold xC at h;split at h
   . rename_i hh _;exact(hh _ _ _ _ _ _ rfl rfl).elim
   . rename_i hh;exact(hh _ _ _ rfl rfl).elim
   . exact h
theorem zI : ∀{a b:List SV},oP a b->bK a b
 |[],[],_=>trivial
 |_::_,_::_,h=>⟨NR h.1,zI h.2⟩
 |[],_::_,h=>h.elim
 |_::_,[],h=>h.elim
theorem vX {ik:IntKind} {x:SV} {n:Int} (h:rI ik x=some n):DM x (.int ik n):=by rw [Fk h];exact aL.2 ⟨by simp,rfl⟩
theorem rS_leZ {x:SV} {s:List UInt8} (h:rS x=some s):DM x (.str s):=by rw [rS_ok h];exact rfl
theorem oI (ik:IntKind) (n:Int):rI ik (.int ik n)=some n:=by simp [rI]
theorem rB_self (b:Bool):rB (.bool b)=some b:=rfl
theorem rS_self (s:List UInt8):rS (.str s)=some s:=rfl
theorem Py {ik:IntKind} {c:Bool} {x y:SV} {a b:Int} (h:rI ik x=some a) (k:rI ik y=some b):rI ik (dY c x y)=some (if c then a else b):=by
 rw [Fk h,Fk k];simp [dY,rI]
theorem WT {c:Bool} {x y:SV} {a b:Bool} (h:rB x=some a) (k:rB y=some b):rB (dY c x y)=some (if c then a else b):=by
 rcases(IC h).2 with rfl|⟨rfl,rfl⟩|⟨rfl,rfl⟩<;>rcases(IC k).2 with rfl|⟨rfl,rfl⟩|⟨rfl,rfl⟩<;>cases c<;>rfl
theorem rS_mrg {c:Bool} {x y:SV} {a b:List UInt8} (h:rS x=some a) (k:rS y=some b):rS (dY c x y)=some (if c then a else b):=by
 rw [rS_ok h,rS_ok k];simp [dY,rS]
def aF (ik:IntKind):wN Int where
 n:=1
 enc a:=[.int ik a]
 dec:=fun|[x]=>rI ik x|_=>none
 qW:=0
 ak _:=True
 kW _:=trivial
 ok l a h _:=by split at h<;>first|cases h;done|exact⟨vX h,trivial⟩
 self a:=oI ik a
 len _:=rfl
 Aa c x y a b h k:=by split at h<;>first|cases h;done|(split at k<;>first|cases k;done|exact Py h k)
def IZ :wN Bool where
 n:=1
 enc a:=[.bool a]
 dec:=fun|[x]=>rB x|_=>none
 qW:=false
 ak _:=True
 kW _:=trivial
 ok l a h _:=by split at h<;>first|cases h;done|exact⟨(IC h).1,trivial⟩
 self a:=rB_self a
 len _:=rfl
 Aa c x y a b h k:=by split at h<;>first|cases h;done|(split at k<;>first|cases k;done|exact WT h k)
def codS :wN (List UInt8) where
 n:=1
 enc a:=[.str a]
 dec:=fun|[x]=>rS x|_=>none
 qW:=[]
 ak _:=True
 kW _:=trivial
 ok l a h _:=by split at h<;>first|cases h;done|exact⟨rS_leZ h,trivial⟩
 self a:=rS_self a
 len _:=rfl
 Aa c x y a b h k:=by split at h<;>first|cases h;done|(split at k<;>first|cases k;done|exact rS_mrg h k)
section
variable {α : Type} (C : wN α)
def ah (n:Nat) (f:Nat->List SV):List α:=(List.range n).map fun i=>(C.dec (f i)).getD C.qW
def HB (n:Nat) (f:Nat->List SV):Prop:= ∀i,i<n->(C.dec (f i)).isSome=true/\C.ak (f i)
variable {C}
@[simp] theorem jH (n:Nat) (f:Nat->List SV):(ah C n f).length=n:=by simp [ah]
theorem um {n:Nat} {f:Nat->List SV} {i:Nat} (h:i<n) (d:α):(ah C n f).getD i d=(C.dec (f i)).getD C.qW:=by
 simp [ah,h]
theorem kj {n:Nat} {f:Nat->List SV} {l:List α} (hn:n=l.length) (h: ∀i,i<n->C.dec (f i)=some (l.getD i C.qW)):ah C n f=l:=by
 subst hn;apply List.ext_getElem
 . simp [ah]
 . intro i h1 h2;simp [ah,h i h2,h2]
theorem iJ {n:Nat} {l:List α} (hn:n=l.length):ah C n (fun i=>C.enc (l.getD i C.qW))=l:=kj hn fun i _=>C.self _
theorem xx {n k:Nat} {l m:List α} {g:Nat->List SV} (hn:n=l.length) (hk:k=m.length) (h: ∀i,i<k->C.dec (g i)=some (m.getD i C.qW)) (hg:(C.dec (g 0)).isSome=true):ah C (n+k) (fun j=>af (decide (j<n)) (C.enc (l.getD j C.qW)) (g (j-n)))=l++m:=by
 refine kj (by simp [hn,hk]) fun i hi=> ?_
 by_cases h1:i<n
 . have: ∀c x y a,C.dec x=some a->c=true->(C.dec y).isSome=true->C.dec (af c x y)=some a:=by
    intro c x y a hx hc hy;obtain⟨b,hb⟩:=Qi.1 hy;subst hc;simpa using C.Aa true x y a b hx hb
   rw [this _ _ _ _ (C.self _) (by simpa using h1)]
   . congr 1
     simp [J0,Ka (show i<l.length by omega)]
   . rw [show i-n=0 by omega,hg]
 . have:=C.Aa false (C.enc (l.getD i C.qW)) (g (i-n)) _ _ (C.self _) (h (i-n) (by omega));rw [show decide (i<n)=false by simpa using h1,this];simp [J0,Jy (show l.length<=i by omega),hn]
theorem xY {n:Nat} {x:List SV} {v:α} (hx:C.dec x=some v):ah C n (fun _=>x)=List.replicate n v:=by
 refine kj (by simp) fun i hi=> ?_
 rw [hx];simp [J0,hi]
theorem xt {n i:Nat} {l:List α} {x:List SV} {v:α} (hn:n=l.length) (hx:C.dec x=some v):ah C n (fun j=>af (decide (j=i)) x (C.enc (l.getD j C.qW)))=l.set i v:=by
 refine kj (by simp [hn]) fun j hj=> ?_
 rw [C.Aa _ _ _ _ _ hx (C.self _)]
 by_cases e:j=i
 . subst e;simp [J0,K6,<-hn,hj]
 . simp [J0,K6,e,Yv e]
end
section
variable {α : Type} {C : wN α}
theorem rowL_pushE {l:List α} {v:α}:ah C (l.length+1) (fun j=>af (decide (j<l.length)) (C.enc (l.getD j C.qW)) (C.enc v))=l++[v]:=xx (C:=C) (k:=1) (m:=[v]) (g:=fun _=>C.enc v) rfl rfl (fun i hi=>by rw [C.self];simp [show i=0 by omega]) (by rw [C.self];rfl)
theorem R3 {n i:Nat} {l:List α} {v:α} (hn:n=l.length):ah C n (fun j=>af (decide (j=i)) (C.enc v) (C.enc (l.getD j C.qW)))=l.set i v:=xt hn (C.self v)
theorem vQ {l:List α} {x:List SV} {v:α} (hx:C.dec x=some v):ah C (l.length+1) (fun j=>af (decide (j<l.length)) (C.enc (l.getD j C.qW)) x)=l++[v]:=
 xx (C:=C) (k:=1) (m:=[v]) (g:=fun _=>x) rfl rfl (fun i hi=>by rw [hx];simp [show i=0 by omega]) (by rw [hx];rfl)
end
theorem gD {α:Type} {l:List α} {v d:α} {i:Nat} (hi:i<l.length+1):(l++[v]).getD i d=if i<l.length then l.getD i d else v:=by
 by_cases h:i<l.length
 . simp [h,J0,Ka h]
 . have:i=l.length:=by omega
   subst this;simp [J0]
theorem bo {α:Type} {l:List α} {v d:α} {i j:Nat} (hj:j<l.length):(l.set i v).getD j d=if j=i then v else l.getD j d:=by
 by_cases h:j=i
 . subst h;simp [J0,K6,hj]
 . simp [J0,K6,h,Yv h]
@[simp] theorem codI_n (ik:IntKind):(aF ik).n=1:=rfl
@[simp] theorem codI_dft (ik:IntKind):(aF ik).qW=0:=rfl
@[simp] theorem codI_enc (ik:IntKind) (a:Int):(aF ik).enc a=[.int ik a]:=rfl
@[simp] theorem codB_n :IZ.n=1:=rfl
@[simp] theorem codB_dft :IZ.qW=false:=rfl
@[simp] theorem codB_enc (a:Bool):IZ.enc a=[.bool a]:=rfl
@[simp] theorem codS_n :codS.n=1:=rfl
@[simp] theorem codS_dft :codS.qW=[]:=rfl
@[simp] theorem codS_enc (a:List UInt8):codS.enc a=[.str a]:=rfl
@[simp] theorem pushI {ik:IntKind} {l:List Int} {v:Int}:ah (aF ik) (l.length+1) (fun j=>af (decide (j<l.length)) [.int ik (l.getD j 0)] [.int ik v])=l++[v]:=vQ (oI ik v)
theorem tv {ik:IntKind} {n i:Nat} {l:List Int} {v:Int} (hn:n=l.length):ah (aF ik) n (fun j=>af (decide (j=i)) [.int ik v] [.int ik (l.getD j 0)])=l.set i v:=xt hn (oI ik v)
@[simp] theorem zerosI {ik:IntKind} {n:Nat} {v:Int}:ah (aF ik) n (fun _=>[.int ik v])=List.replicate n v:=by
 refine kj (by simp) fun i hi=> ?_
 simp [J0,hi];exact oI ik v
@[simp] theorem Te {ik:IntKind} {l:List Int}:ah (aF ik) l.length (fun j=>[.int ik (l.getD j 0)])=l:=iJ (C:=aF ik) rfl
@[simp] theorem pushB {l:List Bool} {v:Bool}:ah IZ (l.length+1) (fun j=>af (decide (j<l.length)) [.bool (l.getD j false)] [.bool v])=l++[v]:=vQ (C:=IZ) rfl
@[simp] theorem selfB {l:List Bool}:ah IZ l.length (fun j=>[.bool (l.getD j false)])=l:=iJ (C:=IZ) rfl
theorem UW {ik:IntKind}: ∀l a,(aF ik).dec l=some a->(aF ik).ak l->oP l ((aF ik).enc a):=by
 intro l a h _;simp only [aF]at h⊢;split at h<;>first|cases h;done|exact⟨RY h,trivial⟩
def OE {α:Type} (C:wN α) (h0: ∀l a,C.dec l=some a->C.ak l->oP l (C.enc a)):wN (List α) where
 n:=1
 enc l:=[.aI C.n l.length fun i=>C.enc (l.getD i C.qW)]
 dec:=fun
  |[.aI es n f]=>(match Nat.beq es C.n with
   |true=>some (ah C n f)
   |false=>none)
  |[.aq]=>some []
  |_=>none
 qW:=[]
 ak:=fun
  |[.aI _ n f]=>HB C n f
  |_=>True
 kW a:=fun i _=>⟨by rw [C.self];rfl,C.kW _⟩
 ok l a h hg:=by
  split at h
  . split at h
    case h_2=>cases h
    rename_i he;cases h;refine⟨aL.2 ⟨he,(jH _ _).symm,fun i hi=> ?_⟩,trivial⟩;obtain⟨b,hb⟩:=Qi.1 (hg i hi).1;have:=h0 _ _ hb (hg i hi).2;simp only [um hi,hb];exact this
  . cases h;exact⟨rfl,trivial⟩
  . cases h
 self a:=by
  simp only [Yz];rw [iJ rfl]
 len _:=rfl
 Aa c x y a b h k:=by
  split at h
  . split at h
    case h_2=>cases h
    rename_i he;have he:=Jd he;subst he;cases h;split at k
    . split at k
      case h_2=>cases k
      rename_i he;have he:=Jd he;subst he;cases k;cases c<;>simp [af,dY]
    . cases k;cases c<;>simp [af,dY,ah]
    . cases k
  . cases h;split at k
    . split at k
      case h_2=>cases k
      rename_i he;have he:=Jd he;subst he;cases k;cases c<;>simp [af,dY,ah]
    . cases k;cases c<;>simp [af,dY]
    . cases k
  . cases h
@[simp] theorem setL_mrg {c:Bool} {x y v:SV}:cE (af c [x] [y]) 0 [v]=[v]:=rfl
@[simp] theorem setL_one {a b:SV}:cE [a] 0 [b]=[b]:=rfl
structure Arg (α : Type) where
 enc : α -> SV
 dec : SV -> Option (Prop × α)
 ok : ∀ x p a, dec x = some (p, a) -> p -> KY pk eL x (enc a)
theorem Cy {x y:SV} (h:DM x y):JW pk eL x y:=by
 unfold JW;split
 . simp [DM,pg]at h
 . simp [DM,pg]at h
 . simp [DM,pg]at h
 . simp [DM,pg]at h
 . exact h
 . exact aL.2 ⟨(aL.1 h).1,(aL.1 h).2.1,fun i hi=>zI ((aL.1 h).2.2 i hi)⟩
 . simp [DM,pg]at h
 . exact h
theorem Uu : ∀{x y:List SV},bK x y->LV pk eL x y
 |[],[],_=>trivial
 |_::_,_::_,h=>⟨Cy h.1,Uu h.2⟩
 |[],_::_,h=>h.elim
 |_::_,[],h=>h.elim
theorem z4 : ∀{x y:List SV},bK x y->mA pk eL (x.map .s) (y.map .s)
 |[],[],_=>trivial
 |_::_,_::_,h=>⟨Cy h.1,z4 h.2⟩
 |[],_::_,h=>h.elim
 |_::_,[],h=>h.elim
theorem RT {x y:SV} (h:JW pk eL x y) (hy: ∀l,y≠ .agg l):KY pk eL x y:=by
 unfold KY;split
 . exact absurd rfl (hy _)
 . exact h
theorem L8 {x y:SV} (h:DM x y) (hy: ∀l,y≠ .agg l):KY pk eL x y:=RT (Cy h) hy
def DN (ik:IntKind):Arg Int where
 enc:= .int ik
 dec x:=oB (rI ik x) fun a=>some (True,a)
 ok x p a h _:=by
  obtain⟨b,h1,h2⟩:=gQ h;cases h2;exact L8 (vX h1) (by intro l;simp)
def VI :Arg Bool where
 enc:= .bool
 dec x:=oB (rB x) fun a=>some (True,a)
 ok x p a h _:=by
  obtain⟨b,h1,h2⟩:=gQ h;cases h2;exact L8 (IC h1).1 (by intro l;simp)
theorem oX : ∀{g:List ar} {cs:List SV},aV g=some cs->g=cs.map .s
 |[],cs,h=>by simp [aV]at h;subst h;rfl
 | .s v::r,cs,h=>by
  simp only [aV,Jp]at h;obtain⟨c,h1,rfl⟩:=h;simp [oX h1]
 | .a .. ::_,cs,h=>by simp [aV]at h
def argA {α:Type} (C:wN α):Arg α where
 enc a:= .agg ((C.enc a).map .s)
 dec x:=match x with
  | .agg g=>oB (aV g) fun cs=>oB (C.dec cs) fun a=>some (C.ak cs,a)
  |_=>none
 ok x p a h hp:=by
  split at h
  case h_2=>cases h
  obtain⟨cs,h1,h⟩:=gQ h;obtain⟨b,h2,h⟩:=gQ h;cases h;rw [oX h1];exact z4 (C.ok _ _ h2 hp)
def Av {α:Type} (C:wN α) (l:List α):SV:= .aI C.n l.length fun i=>C.enc (l.getD i C.qW)
def zN {α:Type} (C:wN α):Arg (List α) where
 enc:=Av C
 dec x:=match x with
  | .aI es n f=>(match Nat.beq es C.n with
   |true=>some (HB C n f,ah C n f)
   |false=>none)
  | .aq=>some (True,[])
  |_=>none
 ok x p a h hp:=by
  split at h
  . rename_i es n f;split at h
    case h_2=>cases h
    rename_i he;have he:=Jd he;cases h;refine aL.2 ⟨by rw [he];exact Yz _,(jH n f).symm,fun i hi=> ?_⟩;obtain⟨b,hb⟩:=Qi.1 (hp i hi).1;have:=C.ok _ _ hb (hp i hi).2;simp only [um hi,hb];exact this
  . cases h;exact rfl
  . cases h
structure iR (α : Type) where
 n : Nat
 enc : α -> List SV
 dec : List SV -> Option (Prop × α)
 ok : SX n dec enc
def iR.nil :iR Unit where
 n:=0
 enc _:=[]
 dec:=fun|[]=>some (True,())|_=>none
 ok l p a h _:=by dsimp only at h;split at h<;>cases h;exact⟨trivial,rfl⟩
def iR.one {α:Type} (A:Arg α):iR α where
 n:=1
 enc a:=[A.enc a]
 dec:=fun|[x]=>A.dec x|_=>none
 ok l p a h hp:=by
  dsimp only at h;split at h
  . exact⟨⟨A.ok _ _ _ h hp,trivial⟩,rfl⟩
  . cases h
def iR.cons {α β:Type} (A:Arg α) (S:iR β):iR (α×β) where
 n:=S.n+1
 enc a:=A.enc a.1::S.enc a.2
 dec:=fun|x::r=>(match A.dec x with
  |some (p,a)=>(match S.dec r with
   |some (q,b)=>some (p/\q,(a,b))
   |none=>none)
  |none=>none)|_=>none
 ok l p a h hp:=by
  dsimp only at h;split at h
  case h_2=>cases h
  split at h
  case h_2=>cases h
  rename_i h1;split at h
  case h_2=>cases h
  rename_i h2;cases h;obtain⟨g1,g2⟩:=S.ok _ _ _ h2 hp.2;exact⟨⟨A.ok _ _ _ h1 hp.1,g1⟩,by simp [g2]⟩
def BX (s:bg) (id:Nat):Nat->Nat->(List SV->Prop)->Prop
 |_,0,k=>k []
 |q,n+1,k=>Ao s (.sg id q) fun x=>BX s id (q+1) n fun r=>k (x::r)
theorem xO {s:bg} {id:Nat}: ∀{n q:Nat} {k:List SV->Prop},BX s id q n k-> ∃l,k l
 |0,_,_,h=>⟨_,h⟩
 |_+1,_,_,h=>by obtain⟨x,h⟩:=rj h;obtain⟨r,h⟩:=xO h;exact⟨_,h⟩
def Port.N2 {α:Type} (C:wN α) (id q:Nat):Port where
 T:=α
 rd s k:=BX s id q C.n fun l=>match C.dec l with
  |some a=>k a
  |none=>False
 ws _ a:=bs id q ((C.enc a).map .s)
 all k:= ∀a,k a
 ok s k h:=by
  obtain⟨l,h⟩:=xO h;split at h
  . exact⟨_,h⟩
  . exact h.elim
 oT k h:=h
def Port.iQ {α:Type} (C:wN α) (n id q:Nat):Port where
 T:=List α
 rd s k:=match s.get (.sg id q)with| .s (.a _ _ f)=>k (ah C n f)|_=>False
 ws _ l:=[(.sg id q, .s (.a n C.n fun j=>C.enc (l.getD j C.qW)))]
 all k:= ∀l,k l
 ok s k h:=by
  split at h
  . exact⟨_,h⟩
  . exact h.elim
 oT k h:=h
def Port.ah {α:Type} (C:wN α) (id:Nat) (e:TypeId) (at_:List Loc):Port where
 T:=List α
 rd s k:=match s.get (.sg id 0)with| .s (.a n _ f)=>k (Sx.ah C n f)|_=>k []
 ws s l:=match s.get (.mt id)with
  | .m (some m)=>(.sg id 0, .s (.a l.length C.n fun j=>C.enc (l.getD j C.qW)))::at_.map fun a=>(a,P2 a (.sl id m.aD 0 l.length))
  |_=>(.mt id, .m (some ⟨0,false,true,some e,1,C.n,[]⟩))::(.sg id 0, .s (.a l.length C.n fun j=>C.enc (l.getD j C.qW)))::at_.map fun a=>(a,P2 a (.sl id 0 0 l.length))
 all k:= ∀l,k l
 ok s k h:=by
  split at h
  . exact⟨_,h⟩
  . exact⟨_,h⟩
 oT k h:=h
def Port.KD {α:Type} (C:wN α) (l:Loc):Port where
 T:=List α
 rd s k:=Ao s l fun| .aI _ n f=>k (Sx.ah C n f)| .aq=>k []|_=>False
 ws _ x:=[(l,P2 l (Av C x))]
 all k:= ∀l,k l
 ok s k h:=by
  obtain⟨x,h⟩:=rj h;split at h
  . exact⟨_,h⟩
  . exact⟨_,h⟩
  . exact h.elim
 oT k h:=h
def Port.fogT (ts:List Nat):Port where
 T:=Unit
 rd _ k:=k ()
 ws _ _:=ts.map fun t=>(.tm t, .v .any)
 all k:=k ()
 ok _ _ h:=⟨(),h⟩
 oT _ h _:=h
def Port.list :List Port->Port
 |[]=> .unit
 |[p]=>p
 |p::r=> .pair p (.list r)
end Go.Sx
namespace Go.Sx
open Go Go.RowKit
variable [bW]
theorem kD.one {P:Program} {t:TypeId} {ts:List TypeId} {xs:List SV} {ks:List CS} {agg:Bool} (h:kD P (t::ts) xs) (hs:shapeOf P 9 t=some ks) (ha:bZ P t=some agg): ∃svs r,HasKL ks svs/\xs=ML agg svs::r/\kD P ts r:=by
 obtain⟨ks',agg',svs,r,h1,h2,h3,h4,h5⟩:=h;rw [hs]at h1;rw [ha]at h2;cases h1;cases h2;exact⟨svs,r,h3,h4,h5⟩
section
variable {P : Program} {t : TypeId} {ts : List TypeId} {xs : List SV} {α : Type} {C : wN α} {ks : List CS} {wf : α -> Prop}
theorem wu {x0:CS} (h:kD P (t::ts) xs) (hs:shapeOf P 9 t=some [x0]) (ha:bZ P t=some false): ∃x r,xs=x::r/\HasK x0 x/\kD P ts r:=by
 obtain⟨svs,r,h1,h2,h3⟩:=h.one hs ha;simp only [HasKL]at h1;obtain⟨x,q,rfl,hx,rfl⟩:=h1;exact⟨x,r,h2,hx,h3⟩
theorem open_int {ik:IntKind} (h:kD P (t::ts) xs) (hs:shapeOf P 9 t=some [.int ik]) (ha:bZ P t=some false): ∃n r,xs= .int ik n::r/\(Lit.int ik n).wf=true/\kD P ts r:=by
 obtain⟨x,r,h1,h2,h3⟩:=wu h hs ha;simp only [HasK]at h2;obtain⟨n,rfl,hn⟩:=h2;exact⟨n,r,h1,hn,h3⟩
end
end Go.Sx
