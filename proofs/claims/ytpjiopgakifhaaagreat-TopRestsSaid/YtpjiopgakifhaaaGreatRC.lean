import Derived.Test.YtpjiopgakifhaaaGreatRA
import Derived.Test.YtpjiopgakifhaaaGreatRB
import Derived.Lib.ConvBytes
import Derived.Laws.BytesString
import Derived.Laws.Append
set_option linter.unusedSectionVars false
set_option linter.unusedSimpArgs false
set_option linter.unusedVariables false
set_option maxRecDepth 100000
namespace Go.Sx
open Go Go.RowKit
variable [bW]
section
variable {E : Env} {P : Program} {ro : RO} {own : Own} {s : St} {w : World} {a : Act}
theorem iq{o o':Own}{x:SV}{v:Value}(h:Rel ro o x v)(i:fM x=true):Rel ro o' x v:=by
 cases x<;>simp[fM]at i
 . rw[jJ h];exact .bool _ _
 . rw[nX h];exact .tt _
 . rw[qD h];exact .ff _
 . rw[aK h];exact .int _ _ _
 . rw[dR h];exact .str _ _
 . rw[gh h];exact .aq _
 . rcases dE h with⟨d,A,cap,e⟩|⟨b,p,cap,j,e,c,d,k,m⟩
   . rw[e];exact .fe _ _ _ _ _ _ d
   . rw[e];exact .bF _ _ _ _ _ _ _ j c d k m
 . cases h;exact .DG _ _ ‹_›
 . cases h;exact .emp _ _
 . cases h;exact .km _
 . cases h;exact .Gu _
 . cases h;exact .pn _
 . cases h;exact .sy _ _ _ _ _ _ ‹_› ‹_› ‹_›
 . cases h;exact .tg _ _ _ ‹_›
theorem EF{x:SV}(h:fM x=true):ib x=true:=by cases x<;>simp[fM,ib]at h⊢
theorem gY:∀{l:List ar},gm l->∀k c,flat l k=some c->fM c=true
 |[],_,_,_,hk=>by simp[flat]at hk
 |.s v::r,h,k,c,hk=>by
  cases k with
  |zero=>rw[cC]at hk;simp at hk;subst hk;exact(aL.1 h).1
  |succ k=>rw[cB]at hk;exact gY (aL.1 h).2 k c hk
 |.a n es f::r,h,k,c,hk=>by
  by_cases b:k<n*es
  . rw[cy b]at hk;have d:0<es:=by
     rcases Jw es with e|e
     . subst e;simp at b
     . exact e
    have:=h.1 (k/es) (by rw[K9 d];exact b);simp only[yr,J2,Js]at this;exact this.2 _ (Y1 hk)
  . rw[gZ b]at hk;exact gY h.2 _ c hk
theorem W8{o e:Own}{x:SV}{v:Value}(h:Rel ro o x v)(b:gX x):Rel ro e x v:=by
 cases x
 case agg l=>
  obtain⟨p,i,j,m⟩:=cU h;rw[i];exact .agg _ _ _ j λk c d=>iq (m k c d) (gY b k c d)
 all_goals (simp only[gX,aL]at b;exact iq h b.1)
theorem bA.freeze(h:bA E ro own s w a){c:Nat}{m:lZ}{n es:Nat}{f:Nat->List SV}(R:m.row=true)(X:s (.mt c)=.m (some m))(Z:s.az c m.ns=[.a n es f])(ac:∀i,i<n->yr es (f i)=true):
 ∃u,ga ro u/\bA E u own (s.put (.mt c) (.m (some {m with zW:=true}))) w a:=by
 by_cases N:m.zW=true
 . refine⟨ro,.refl _,?_⟩;have:s.put (.mt c) (.m (some {m with zW:=true}))=s:=by
    funext l
    simp only[St.put];split
    . rename_i e;rw[e,X];cases m;simp only at N;subst N;rfl
    . rfl
   rw[this];exact h
 have N:m.zW=false:=by simpa using N
 have K:=h.gK c m X;obtain⟨x0,z⟩:=K.there;have A:∀i,i≠c->(s.put (.mt c) (.m (some {m with zW:=true}))) (.mt i)=s (.mt i):=λi p=>St.bh _ _ (by simpa using p)
 have G:(s.put (.mt c) (.m (some {m with zW:=true}))) (.mt c)=.m (some {m with zW:=true}):=St.cQ _ _ _;have ad:∀i k,(s.put (.mt c) (.m (some {m with zW:=true}))).az i k=s.az i k:=λi k=>St.dc λq _=>St.bh _ _ (by simp)
 have H:∀b,x0=some b->∀k,k<aa (s.az c m.ns)->w.frozen? ⟨b,k,none⟩=false:=by
  intro b r k L;obtain⟨cs,e,lo,p,hh,aD,_⟩:=(K.live b (by rw[z,r]) N).body;rw[World.frozen?];simp only[hh];simp;omega
 obtain⟨u,x,al,J⟩:∃u:RO,ga ro u/\(∀b,x0=some b->∀k,k<aa (s.az c m.ns)->∃v,u b k=some v/\eb w b k v/\∀F,flat (s.az c m.ns) k=some F->Rel ro own F v)/\
  ((∀b o v,u b o=some v->ro b o=some v\/(x0=some b/\eb w b o v))/\(∀b o,x0≠some b->u b o=ro b o)):=by
  cases x0 with
  |none=>exact⟨ro,.refl _,by simp,λb o v d=>.inl d,λ_ _ _=>rfl⟩
  |some O=>
   have hl:=K.live O z N;refine⟨λb o=>if b=O then(if o<aa (s.az c m.ns)then w.cell? ⟨O,o,none⟩else none)else ro b o,λb o v d=>?_,λb r k L=>?_,λb o v d=>?_,λb o r=>?_⟩
   . have:b≠O:=by rintro rfl;rw[hl.apart o]at d;cases d
     simp only[this,JF];exact d
   . simp at r;subst r;obtain⟨v,d,hr⟩:=h.DR X z L;have aq:=H O rfl k L;exact⟨v,by simp[L,d],⟨d,aq⟩,hr⟩
   . simp only at d;split at d
     . rename_i r;subst r;split at d
       . rename_i ho;exact .inr ⟨rfl,d,H b rfl o ho⟩
       . cases d
     . exact .inl d
   . have:b≠O:=λe=>r (by rw[e])
     simp[this]
 refine⟨u,x,?_⟩;refine {below:=h.below,base:=h.base,defs:=h.defs,size:=h.size,tm:=?_,cJ:=?_,uU:=?_,gK:=?_,fr:=?_,mY:=?_,inj:=?_,kk:=E.mono _ _ _ _ (.refl _) x h.kk,mp:=h.mp' x (.refl _) (λi m' B h2=>by
  by_cases p:i=c
  . subst p;rw[G]at B;simp only[Item.m.injEq,J3]at B;subst B;simp[cz,R]at h2
  . rw[A i p]at B;exact⟨B,λn' e' f' h3=>by rw[St.bh _ _ (by simp)]at h3;exact h3⟩) (λ_ _ _ _ h5=>h5)}
 . intro t F ht;rw[St.bh _ _ (by simp)]at ht;exact(h.tm t F ht).mono x (.refl _)
 . intro b o v d;rcases J.1 b o v d with B|⟨_,B⟩
   . exact h.cJ b o v B
   . exact B
 . intro b o r;rw[J.2 b o ?_]
   . exact h.uU b o r
   . intro M;have:=(K.live b (by rw[z,M]) N).low;omega
 . intro i m' C;rw[ad]
   by_cases p:i=c
   . subst p;rw[G]at C;simp only[Item.m.injEq,J3]at C;subst C;refine {st:=K.st,es:=K.es,row:=K.row,plain:=K.plain,there:=K.there,nil:=K.nil,live:=(λb _ D=>by cases D),dn:=?_};intro b r _ k L;simp only at r;rw[z]at r;simp at r;obtain⟨v,d,_,hr⟩:=al b r k L;refine⟨v,d,λF hs=>?_⟩;have aw:flat [.a n es f] k=some F:=by rw[<-Z];exact hs
     have:=gY (l:=[.a n es f]) ⟨ac,trivial⟩ k F aw;exact(iq (hr F hs) this).mono x (.refl _)
   . rw[A i p]at C;have y:=h.gK i m' C;refine {st:=y.st,es:=y.es,row:=y.row,plain:=y.plain,there:=y.there,nil:=y.nil,live:=λb r D=>?_,dn:=λb r D k L=>?_}
     . have hl:=y.live b r D;refine⟨hl.low,λo=>?_,?_⟩
       . rw[J.2 b o ?_]
         . exact hl.apart o
         . intro M;exact p (h.inj i c m' m b C X D N r (by rw[z,M]))
       . obtain⟨cs,e,lo,ax,r0,r1,r2,r3,r4,r5,r6⟩:=hl.body;exact⟨cs,e,lo,ax,r0,r1,r2,r3,λk F L=>(r4 k F L).mono x (.refl _),r5,r6⟩
     . obtain⟨v,d,hr⟩:=y.dn b r D k L;exact⟨v,x _ _ _ d,λF hs=>(hr F hs).mono x (.refl _)⟩
 . intro i p
   by_cases M:i=c
   . subst M;rw[G]at p;cases p
   . rw[A i M]at p;exact h.fr i p
 . intro i m' p
   by_cases M:i=c
   . subst M;rw[G]at p;simp only[Item.m.injEq,J3]at p;subst p;exact h.mY i m X
   . rw[A i M]at p;exact h.mY i m' p
 . intro i i' m1 m2 b B h2 z1 z2 b1 b2;have ne:∀j mj,(s.put (.mt c) (.m (some {m with zW:=true}))) (.mt j)=.m (some mj)->mj.zW=false->j≠c:=by
    rintro j mj hj ay rfl;rw[G]at hj;simp only[Item.m.injEq,J3]at hj;subst hj;cases ay
   rw[A i (ne i m1 B z1)]at B;rw[A i' (ne i' m2 h2 z2)]at h2;exact h.inj i i' m1 m2 b B h2 z1 z2 b1 b2
theorem bA.called(h:bA E ro own s w a){y:World}{u:RO}(x:Below w.heap.size w y)(p:ga ro u)(z:∀b o v,u b o=some v->eb y b o v)(d:∀b o,b<w.heap.size->u b o=ro b o):bA E u own s y a:=by
 refine {below:=h.below.trans (x.mono h.base),base:=Jn h.base x.size,defs:=h.defs,size:=h.size,tm:=λt q H=>(h.tm t q H).mono p (.refl _),cJ:=z,uU:=λb o c=>by rw[d b o (by have:=h.base;omega)];exact h.uU b o c,gK:=?_,fr:=h.fr,mY:=h.mY,inj:=h.inj,kk:=E.mono _ _ _ _ (.refl _) p h.kk,mp:=h.mp' p (.refl _) (λ_ _ J _=>⟨J,λ_ _ _ K=>K⟩) (λb _ _ _ F=>by rw[x.block b (K3.1 F).1];exact F)};intro i m L;have j:=h.gK i m L
 refine {st:=j.st,es:=j.es,row:=j.row,plain:=j.plain,there:=j.there,nil:=j.nil,live:=λb c A=>?_,dn:=λb c A k B=>?_}
 . have C:=j.live b c A;obtain⟨M,e,N,D,G,O,R,X,Z,r5,r6⟩:=C.body;have r:=(K3.1 G).1;exact⟨C.low,λo=>by rw[d b o r];exact C.apart o,M,e,N,D,by rw[x.block b r];exact G,O,R,X,λk q B=>(Z k q B).mono p (.refl _),r5,r6⟩
 . obtain⟨v,hv,hr⟩:=j.dn b c A k B;exact⟨v,p _ _ _ hv,λq hs=>(hr q hs).mono p (.refl _)⟩
theorem bA.adopt(h:bA E ro own s w a){d:Nat}(hf:s (.mt d)=.m none){es n cap:Nat}{f:Nat->List SV}{e:TypeId}{ob:Option Nat}(N:ob=none->n=0)
 (H:∀b,ob=some b->∃Z,E.B<=b/\(∀o,ro b o=none)/\w.heap[b]?=some (.cells Z e (0,0))/\cap<=maxLen/\Z.size=cap*es/\n<=cap/\∀k K,flat [.a n es f] k=some K->Rel ro own K (Z.getD k undef))
 (J:∀id m b,s (.mt id)=.m (some m)->m.zW=false->own.env id m.aD=some (some b)->ob≠some b):
 ∃c,own.le c/\c.env d 0=some ob/\c.cap d 0=cap/\c.st d 0=0/\c.es d 0=es/\bA E ro c (s.apply (lO d true (some e) es [.a n es f])) w a:=by
 have ad:lO d true (some e) es [.a n es f]=(.mt d,.m (some ⟨0,false,true,some e,1,es,[]⟩))::bs d 0 [.a n es f]:=rfl;rw[ad]
 let c:Own:={env:=λid j=>if id=d then(if j=0 then some ob else none)else own.env id j,cap:=λid j=>if id=d then cap else own.cap id j,st:=λid q=>if id=d then aa ([ar.a n es f].take q)else own.st id q,es:=λid q=>if id=d then(match [ar.a n es f][q]? with|some x=>x.es|none=>0)else own.es id q}
 have al:∀id j x,own.env id j=some x->id≠d:=by
  rintro id j x G rfl;rw[h.fr id hf j]at G;cases G
 have A:own.le c:=by
  refine⟨λid j x G=>?_,λid j x G=>?_,λid j x q G=>?_,λid j x q G=>?_⟩<;>simp[c,al id j x G,G]
 have O:∀id k,id≠d->(s.apply ((.mt d,.m (some ⟨0,false,true,some e,1,es,[]⟩))::bs d 0 [.a n es f])).az id k=s.az id k:=by
  intro id k i;refine St.dc λq _=>?_
  simp only[St.apply];rw[bc _ _ _ _ _ (by intro q';simp[i]),St.bh _ _ (by simp)]
 have y:∀id,id≠d->(s.apply ((.mt d,.m (some ⟨0,false,true,some e,1,es,[]⟩))::bs d 0 [.a n es f])) (.mt id)=s (.mt id):=by
  intro id i;simp only[St.apply];rw[bc _ _ _ _ _ (by simp),St.bh _ _ (by simpa using i)]
 have C:(s.apply ((.mt d,.m (some ⟨0,false,true,some e,1,es,[]⟩))::bs d 0 [.a n es f])) (.mt d)=.m (some ⟨0,false,true,some e,1,es,[]⟩):=by
  simp only[St.apply];rw[bc _ _ _ _ _ (by simp),St.cQ]
 have aq:(s.apply ((.mt d,.m (some ⟨0,false,true,some e,1,es,[]⟩))::bs d 0 [.a n es f])).az d 1=[.a n es f]:=by
  simp only[St.apply];exact aaw _ _ _
 refine⟨c,A,by simp[c],by simp[c],by simp[c,aa],by simp[c,ar.es],?_⟩;refine {below:=h.below,base:=h.base,defs:=h.defs,size:=h.size,tm:=?_,cJ:=h.cJ,uU:=h.uU,gK:=?_,fr:=?_,mY:=?_,inj:=?_,kk:=E.mono _ _ _ _ A (.refl _) h.kk,mp:=h.mp' (.refl _) A (λid m h1 h2=>by
  by_cases i:id=d
  . subst i;rw[C]at h1;simp only[Item.m.injEq,J3]at h1;subst h1;simp[cz]at h2
  . rw[y id i]at h1;refine⟨h1,λn e f h3=>?_⟩;simp only[St.apply]at h3;rw[bc _ _ _ _ _ (by intro q';simp[i]),St.bh _ _ (by simp)]at h3;exact h3) (λb o _ _ h5=>h5)}
 . intro t K R;have e1:(s.apply ((.mt d,.m (some ⟨0,false,true,some e,1,es,[]⟩))::bs d 0 [.a n es f])) (.tm t)=s (.tm t):=by
    simp only[St.apply];rw[bc _ _ _ _ _ (by simp),St.bh _ _ (by simp)]
   rw[e1]at R;exact(h.tm t K R).own A
 . intro id m p
   by_cases i:id=d
   . subst i;rw[C]at p;simp only[Item.m.injEq,J3]at p;subst p;rw[aq];refine {st:=λq _=>by simp[c],es:=λq x G=>by simp[c,G],row:=λ_=>⟨n,f,rfl,λb u=>?_⟩,plain:=(λX=>by cases X),there:=⟨ob,by simp[c]⟩,nil:=λhn=>⟨rfl,f,?_⟩,live:=λb u _=>?_,dn:=λb _ L=>by cases L}
     . simp only[c,JE,J3]at u;obtain⟨Z,_,_,_,_,_,h6,_⟩:=H b u;simpa[c]using h6
     . simp only[c,JE,J3]at hn;rw[N hn]
     . simp only[c,JE,J3]at u;obtain⟨Z,c1,c2,c3,c4,c5,c6,c7⟩:=H b u;refine⟨c1,c2,Z,e,0,0,c3,.inl (J1 _),λt R=>?_,?_,λk K hk=>(c7 k K hk).own A,(λX=>by cases X),λ_=>?_⟩
       . simp only[J3]at R;exact⟨rfl,rfl,R,by simpa[c]using c4⟩
       . simp only[aa,ar.size,Jv];rw[c5];exact Jl _ c6
       . rw[c5];simp[c,ar.es]
   . rw[y id i]at p;rw[O id m.ns i];have M:=h.gK id m p;obtain⟨x0,aw⟩:=M.there;have e0:∀j,c.env id j=own.env id j:=λj=>by simp[c,i]
     have e1:∀q,c.st id q=own.st id q:=λq=>by simp[c,i]
     have e2:∀q,c.es id q=own.es id q:=λq=>by simp[c,i]
     have e3:∀j,c.cap id j=own.cap id j:=λj=>by simp[c,i]
     refine {st:=λq hq=>by rw[e1];exact M.st q hq,es:=λq x G=>by rw[e2];exact M.es q x G,row:=λX=>?_,plain:=M.plain,there:=⟨x0,by rw[e0];exact aw⟩,nil:=λhn=>M.nil (by rw[<-e0];exact hn),live:=λb u L=>?_,dn:=λb u L=>M.dn b (by rw[<-e0];exact u) L}
     . obtain⟨n,f,hl,hn⟩:=M.row X;exact⟨n,f,hl,λb u=>by rw[e3];exact hn b (by rw[<-e0];exact u)⟩
     . rw[e0]at u;have hl:=M.live b u L;obtain⟨ax,e',ay,bb,hh,r1,r2,r3,r4,r5,r6⟩:=hl.body;exact⟨hl.low,hl.apart,ax,e',ay,bb,hh,r1,(λt R=>by rw[e3];exact r2 t R),r3,λk K hk=>(r4 k K hk).own A,r5,λX=>by rw[e3,e2];exact r6 X⟩
 . intro id p j
   by_cases i:id=d
   . subst i;rw[C]at p;cases p
   . rw[y id i]at p;simp only[c,i,JF];exact h.fr id p j
 . intro id m p j hv
   by_cases i:id=d
   . subst i;rw[C]at p;simp only[Item.m.injEq,J3]at p;subst p;simp only at hv;simp[c,show j≠0 by omega]
   . rw[y id i]at p;simp only[c,i,JF];exact h.mY id m p j hv
 . intro id D m m' b p z L ac u F
   by_cases i:id=d
   . by_cases r:D=d
     . rw[i,r]
     . rw[y D r]at z;subst i;rw[C]at p;simp only[Item.m.injEq,J3]at p;subst p;simp only[c,JE,J3]at u;simp only[c,r,JF]at F;exact absurd u (J D m' b z ac F)
   . rw[y id i]at p;simp only[c,i,JF]at u
     by_cases r:D=d
     . subst r;rw[C]at z;simp only[Item.m.injEq,J3]at z;subst z;simp only[c,JE,J3]at F;exact absurd F (J id m b p L u)
     . rw[y D r]at z;simp only[c,r,JF]at F;exact h.inj id D m m' b p z L ac u F
def zq(s b:St):Prop:=(∀l,(∀id,l≠ .mt id)->b l=s l)/\∀id,b (.mt id)=s (.mt id)\/∃m,s (.mt id)=.m (some m)/\b (.mt id)=.m (some {m with zW:=true})
theorem zq.az{s b:St}(h:zq s b)(c n:Nat):b.az c n=s.az c n:=St.dc λq _=>h.1 _ (by simp)
theorem mb:∀{xs:List SV}{D:List Value}{s1:St}{p:RO}{k:List SV->List (Loc×Item)->Tx}{ws},zq s s1->bA E p own s1 w a->aQ p own xs D->(iL xs k).ok s ws->
 ∃o c d,(k o c).ok s ws/\ga p d/\zq s (s1.apply c)/\bA E d own (s1.apply c) w a/\aQ d Own.empty o D
 |[],[],s1,p,k,ws,L,h,_,e=>⟨[],[],p,e,.refl _,L,h,trivial⟩
 |x::r,v::vr,s1,p,k,ws,L,h,hr,e=>by
  have plain:gX x->(iL r λr' c=>k (x::r') ([]++c)).ok s ws->∃o c d,(k o c).ok s ws/\ga p d/\zq s (s1.apply c)/\bA E d own (s1.apply c) w a/\aQ d Own.empty o (v::vr):=by
   intro hc e;obtain⟨o,c,d,h1,h2,M,h3,h4⟩:=mb L h hr.2 e;exact⟨x::o,[]++c,d,h1,h2,M,h3,(W8 hr.1 hc).mono h2 (.refl _),h4⟩
  cases x
  case sl id aD off len=>
   simp only[iL,qh]at e;obtain⟨m,hm,e⟩:=fG e;split at e
   case isFalse=>exact e.elim
   rename_i hc;obtain⟨aq,aw⟩:=hc;obtain⟨y,hy,e⟩:=lf e;split at e
   case h_2=>exact e.elim
   rename_i n es f;split at e
   case isFalse=>exact e.elim
   rename_i bf;obtain⟨⟨cc,ax⟩,e⟩:=e;obtain⟨u,ay,z⟩:∃u,s1 (.mt id)=.m (some u)/\(u=m\/u={m with zW:=true}):=by
    rcases L.2 id with e1|⟨m',e1,e2⟩
    . exact⟨m,by rw[e1,hm],.inl rfl⟩
    . rw[hm]at e1;simp only[Item.m.injEq,J3]at e1;subst e1;exact⟨_,e2,.inr rfl⟩
   have ca:u.ns=m.ns:=by rcases z with rfl|rfl<;>rfl
   have N:u.row=true:=by rcases z with rfl|rfl<;>exact aq
   have O:u.aD=aD:=by rcases z with rfl|rfl<;>exact aw
   have cb:u.es=es:=by rcases z with rfl|rfl<;>exact bf
   have he:=h.gK id u ay;obtain⟨n0,f0,R,_⟩:=he.row N;have bi:u.ns=1:=by
    have:=St.dX s1 id u.ns;rw[R]at this;simpa using this.symm
   have A:s1.az id u.ns=[.a n es f]:=by
    rw[bi];have:s1.uC id 0=s.uC id 0:=by simp[St.uC,L.1 (.sg id 0) (by simp)]
    simp[St.az,Q7,this,hy]
   obtain⟨d,F,X⟩:=h.freeze (by assumption) ay A ax;have Z:({u with zW:=true}:lZ)={m with zW:=true}:=by rcases z with rfl|rfl<;>rfl
   rw[Z]at X;have bp:zq s (s1.put (.mt id) (.m (some {m with zW:=true}))):=by
    refine⟨λl hl=>by rw[St.bh _ _ (hl id)];exact L.1 l hl,λi=>?_⟩
    by_cases G:i=id
    . subst G;exact .inr ⟨m,hm,St.cQ _ _ _⟩
    . rw[St.bh _ _ (by simpa using G)];exact L.2 i
   obtain⟨o,c,bt,h1,h2,M,h3,h4⟩:=mb bp X (hr.2.mono F (.refl _)) e;refine⟨_,_,bt,h1,F.trans h2,?_,?_,?_,h4⟩
   . exact M
   . exact h3
   ·
    have hx:=hr.1;rcases fH hx with⟨b,hb,bb,B⟩|⟨_,hl,_,B⟩
    . rw[<-O]at hb B bb;have bv:=X.gK id {m with zW:=true} (St.cQ _ _ _);have bz:own.env id ({m with zW:=true}:lZ).aD=some (some b):=by rw[<-Z];exact hb
      have ac:(s1.put (.mt id) (.m (some {m with zW:=true}))).az id ({m with zW:=true}:lZ).ns=[.a n es f]:=by
       rw[<-Z];show(s1.put _ _).az id u.ns=_
       rw[<-A];exact St.dc λq _=>St.bh _ _ (by simp)
      have ad:=bv.dn b bz rfl;rw[ac]at ad;have bd:own.es id 0=es:=by rw[he.es 0 (.a n es f) (by rw[A];rfl)];rfl
      have H:∀i,i<n->(f i).length=es:=λi G=>by
       have:=ax i G;simp only[yr,J2,JN]at this;exact this.1
      have J:∀i j,i<len->j<es->(off*es+(i*es+j))<n*es/\off*es+(i*es+j)=(off+i)*es+j:=by
       intro i j G hj;have e1:(off+i)*es=off*es+i*es:=Ji _ _ _;have:(off+i+1)*es<=n*es:=Jl _ (by omega);rw[Ji]at this;exact⟨by omega,by omega⟩
      have al:∀k,k<len*es->∃v,d b (off*es+k)=some v:=by
       intro k C;have K:0<es:=by
        rcases Jw es with h0|h0
        . subst h0;simp at C
        . exact h0
       have q1:k/es<len:=by rw[K9 K];exact C
       have q2:k%es<es:=Ki _ K;have q3:k/es*es+k%es=k:=by rw[Km];exact Q5 k es
       have:=J _ _ q1 q2;rw[q3]at this;obtain⟨v,B,_⟩:=ad (off*es+k) (by simp[aa,ar.size];exact this.1);exact⟨v,B⟩
      rw[B,bd];refine Rel.mono ?_ h2 (.refl _);refine .bF _ _ _ _ b (off*es) _ (λk=>((d b (off*es+k)).getD undef)) (by omega) (λi G=>H _ (by omega)) (λk C=>?_) (λi j sv G hj=>?_)
      . obtain⟨v,B⟩:=al k C;rw[B];rfl
      . have be:j<es:=by rw[<-H (off+i) (by omega)];exact(Jb.1 hj).1
        obtain⟨p1,p2⟩:=J i j G be;obtain⟨v,B,bL⟩:=ad (off*es+(i*es+j)) (by simp[aa,ar.size];exact p1);rw[B];refine bL sv ?_;rw[cy p1,p2];have:=lM (f:=f) (n:=n) (i:=off+i) (by omega) be;rw[p2]at p1;simp only[ar.at,p1,JE]at this;rw[this];exact hj
    . rw[B];subst hl;exact .fe _ _ _ _ _ _ rfl
  all_goals
   simp only[iL,qh,Tx.ok]at e;exact plain e.1 e.2
 |[],_::_,_,_,_,_,_,_,h,_=>h.elim
 |_::_,[],_,_,_,_,_,_,h,_=>h.elim
theorem jc:∀{l:List ar}{b:List SV},aV l=some b->aa l=b.length/\∀k,flat l k=b[k]?
 |[],b,h=>by simp[aV]at h;subst h;exact⟨rfl,λk=>by simp[flat]⟩
 |.s v::r,b,h=>by
  simp only[aV,Jp]at h;obtain⟨c,d,rfl⟩:=h;obtain⟨p,q⟩:=jc d;refine⟨by simp[aa,ar.size,p];omega,λk=>?_⟩;cases k with
  |zero=>rw[cC];rfl
  |succ k=>rw[cB,q];rfl
 |.a .. ::_,b,h=>by simp[aV]at h
theorem aaE:∀(b:List SV),aV (b.map .s)=some b
 |[]=>rfl
 |x::r=>by simp[aV,aaE r]
theorem zr{ro:RO}{own:Own}:∀{l:List SV}{v:List Value},l.length=v.length->(∀(i:Nat)(b:SV)(u:Value),l[i]?=some b->v[i]?=some u->Rel ro own b u)->aQ ro own l v
 |[],[],_,_=>trivial
 |x::r,y::t,hl,h=>⟨h 0 x y rfl rfl,zr (by simpa using hl) λi b u c d=>h (i+1) b u (by simpa using c) (by simpa using d)⟩
 |[],_::_,hl,_=>by simp at hl
 |_::_,[],hl,_=>by simp at hl
theorem ko:∀{Z:List SV}{D:List Value}{B:St}{m:RO}{k:List SV->List (Loc×Item)->Tx}{z},zq s B->bA E m own B w a->aQ m own Z D->(cn Z k).ok s z->
 ∃j d b,(k j d).ok s z/\ga m b/\bA E b own (B.apply d) w a/\aQ b Own.empty j D/\zq s (B.apply d)
 |[],[],B,m,k,z,hf,h,_,o=>⟨[],[],m,o,.refl _,h,trivial,hf⟩
 |x::r,v::vr,B,m,k,z,hf,h,F,o=>by
  have one:∀{c:List SV}{cv:List Value}{g:List SV->SV},aQ m own c cv->(∀b A,aQ b Own.empty A cv->A.length=c.length->Rel b Own.empty (g A) v)->(iL c λA z=>cn r λK d=>k (g A::K) (z++d)).ok s z->
   ∃j d b,(k j d).ok s z/\ga m b/\bA E b own (B.apply d) w a/\aQ b Own.empty j (v::vr)/\zq s (B.apply d):=by
   intro c cv g C hg o;obtain⟨A,w1,b,H,G,L,M,J⟩:=mb hf h C o;obtain⟨j,d,N,k1,k2,k3,k4,k5⟩:=ko L M (F.2.mono G (.refl _)) H;exact⟨_,_,N,k1,G.trans k2,by rw[aM];exact k3,⟨(hg b A J (by rw[J.length,C.length])).mono k2 (.refl _),k4⟩,by rw[aM];exact k5⟩
  have single:(qh x λx' z=>cn r λK d=>k (x'::K) (z++d)).ok s z->∃j d b,(k j d).ok s z/\ga m b/\bA E b own (B.apply d) w a/\aQ b Own.empty j (v::vr)/\zq s (B.apply d):=by
   intro o;refine one (c:=[x]) (cv:=[v]) (g:=λc=>c.getD 0 .any) ⟨F.1,trivial⟩ (λb A C hl=>?_) ?_
   . match A,C with
     |[y],C=>exact C.1
   . simp only[iL,Kw,List.getD_cons_zero];exact o
  cases x
  case agg l=>
   simp only[cn,x7]at o;split at o
   . split at o
     case h_2=>exact o.elim
     rename_i cs O;obtain⟨R,hv,ac,hh⟩:=cU F.1;obtain⟨p,q⟩:=jc O;refine one (c:=cs) (cv:=R.toList) (g:=λc=>.agg (c.map .s)) (zr (by simp;omega) λi X u H G=>?_) (λb A C hl=>?_) o
     . have:=hh i X (by rw[q];exact H);have e:R.getD i undef=u:=by
        rw[Jf,<-Array.getElem?_toList,G];rfl
       rw[e]at this;exact this
     . obtain⟨p',q'⟩:=jc (aaE A);rw[hv];refine .agg _ _ _ (by rw[p',hl];omega) λi X hi=>?_
       rw[q']at hi;obtain⟨u,hu,F⟩:=C.at i X hi;have e:R.getD i undef=u:=by
        rw[Jf,<-Array.getElem?_toList,hu];rfl
       rw[e];exact F
   . obtain⟨C,o⟩:=o;obtain⟨j,d,b,H,G,L,M,J⟩:=ko hf h F.2 o;exact⟨_,[]++d,b,H,G,L,⟨(W8 F.1 C).mono G (.refl _),M⟩,J⟩
  all_goals (simp only[cn,x7]at o;exact single o)
 |[],_::_,_,_,_,_,_,_,h,_=>h.elim
 |_::_,[],_,_,_,_,_,_,h,_=>h.elim
theorem iw{xs:List SV}{vals:List Value}{i:St}{e:RO}{k:List SV->List (Loc×Item)->Tx}{j}(m:zq s i)(h:bA E e own i w a)(o:aQ e own xs vals)(p:(cn xs k).ok s j):
 ∃c d b,(k c d).ok s j/\ga e b/\bA E b own (i.apply d) w a/\aQ b Own.empty c vals:=by
 obtain⟨c,d,b,q,r,u,x,_⟩:=ko m h o p;exact⟨c,d,b,q,r,u,x⟩
theorem zq.free{s c:St}(h:zq s c){b:Nat}(d:s (.mt b)=.m none):c (.mt b)=.m none:=by
 rcases h.2 b with e|⟨m,e,_⟩
 . rw[e,d]
 . rw[d]at e;cases e
theorem BI.open{R:RO}{B:Nat}{e i n:Nat}{f:Nat->List SV}{v:Value}(h:BI R B w e i n f v):∃j cap,(j=none->n=0/\v=.slice none 0 0)/\∀b,j=some b->v=.slice (some ⟨b,0,none⟩) n cap/\∃d,B<=b/\(∀o,R b o=none)/\w.heap[b]?=some (.cells d e (0,0))/\cap<=maxLen/\d.size=cap*i/\n<=cap/\∀k m,flat [.a n i f] k=some m->Rel R Own.empty m (d.getD k undef):=by
 rcases h with⟨p,q⟩|⟨b,cap,d,h⟩
 . exact⟨none,0,λ_=>⟨q,p⟩,λb c=>by cases c⟩
 . refine⟨some b,cap,(λc=>by cases c),λr c=>?_⟩;simp only[J3]at c;subst c;exact⟨h.val,d,h.low,h.apart,h.cells,h.capm,h.size,h.le,h.rel⟩
def DL(ro:RO)(w:World):RO:=λb o=>match ro b o with
 |some v=>some v
 |none=>match w.frozen? ⟨b,o,none⟩with
  |true=>none
  |false=>match w.cell? ⟨b,o,none⟩with
   |some (.int _ _)=>none
   |r=>r
theorem CI(ro:RO)(w:World):ga ro (DL ro w):=λb o v h=>by simp[DL,h]
theorem Vg(h:∀b o v,ro b o=some v->eb w b o v)(b o:Nat)(v:Value)(c:DL ro w b o=some v):eb w b o v:=by
 unfold DL at c;split at c
 . rename_i u hu;obtain rfl:u=v:=by simpa using c
   exact h _ _ _ hu
 . split at c
   . cases c
   . rename_i d;split at c
     . cases c
     . exact⟨c,d⟩
theorem R7{b o:Nat}{k:IntKind}{n:Int}(c:DL ro w b o=some (.int k n)):ro b o=some (.int k n):=by
 unfold DL at c;split at c
 . rename_i u hu;rw[hu];exact c
 . split at c
   . cases c
   . split at c
     . cases c
     . rename_i d;exact absurd c (d _ _)
theorem Vd(h:∀b o v,ro b o=some v->eb w b o v){b o:Nat}{v:Value}(c:eb w b o v)(i:∀k n,v≠ .int k n):DL ro w b o=some v:=by
 unfold DL;split
 . rename_i u hu;have:=(h _ _ _ hu).1;rw[c.1]at this;exact this.symm
 . split
   . rename_i e;rw[c.2]at e;cases e
   . split
     . rename_i k n d;rw[c.1]at d;simp only[J3]at d;exact absurd d (i _ _)
     . exact c.1
theorem EG{x:SV}(h:UO x=true):fM x=true:=by cases x<;>simp_all[UO,fM]
theorem NL{o:Own}{x:SV}{v:Value}(h:UO x=true)(b:Rel ro o x v):∀k n,v≠ .int k n:=by
 intro k n e;subst e;cases x<;>simp[UO]at h<;>cases b
theorem Pv(h:bA E ro own s w a){x R:SV}{v:Value}{k:SV->Tx}{G}(H:Rel ro own x v)(e:(P0 x R k).ok s G):∃y,(k y).ok s G/\Rel (DL ro w) Own.empty y v:=by
 have plain:(kK (gX x) (k x)).ok s G->∃y,(k y).ok s G/\Rel (DL ro w) Own.empty y v:=λe=>⟨x,e.2,(W8 H e.1).mono (CI _ _) (.refl _)⟩
 unfold P0 at e;split at e
 case h_2=>exact plain e
 rename_i es _ _;split at e
 case h_2=>exact plain e
 rename_i id aD off len;obtain⟨n,g,J,r⟩:=B5 h H e;obtain⟨X,K⟩:=J;refine⟨_,K,?_⟩;rcases r with⟨rfl,A,c,rfl⟩|⟨b,L,c,rfl,Z⟩
 . exact .fe _ _ _ _ _ _ rfl
 have p:n<=c:=by
  rcases fH H with⟨b',hb,p,M⟩|⟨_,_,_,M⟩
  . simp only[Value.slice.injEq]at M;omega
  . simp at M
 have d:∀i,i<n->(g i).length=es/\∀m∈g i,UO m=true:=λi o=>by
  have:=X i o;simpa only[nonR,J2,JN,Js]using this
 have cell:∀i j m,i<n->(g i)[j]?=some m->∃u,DL ro w b (L+(i*es+j))=some u/\Rel (DL ro w) Own.empty m u:=λi j m o z=>by
  have B:=(Jb.1 z).1;rw[(d i o).1]at B;obtain⟨u,hu,q⟩:=Z i j o B;have C:=(d i o).2 m (Y1 z);have D:=q m z;exact⟨u,Vd h.cJ hu (NL C D),(iq D (EG C)).mono (CI _ _) (.refl _)⟩
 refine .bF _ _ _ _ b L c (λk=>(DL ro w b (L+k)).getD undef) p (λi o=>(d i o).1) (λk e=>?_) (λi j m o z=>?_)
 . have F:0<es:=by
    rcases Jw es with N|N
    . subst N;simp at e
    . exact N
   have O:k/es<n:=by rw[K9 F];exact e
   have q2:k%es<es:=Ki _ F;have q3:k/es*es+k%es=k:=by rw[Km];exact Q5 k es
   obtain⟨u,hu,_⟩:=cell (k/es) (k%es) _ O (J4 (by rw[(d _ O).1];exact q2));rw[q3]at hu;rw[hu];rfl
 . obtain⟨u,hu,q⟩:=cell i j m o z;simp only[hu,K5];exact q
theorem Gt(h:bA E ro own s w a):∀{o e:List SV}{b:List Value}{k:List SV->Tx}{c},aQ ro own o b->(NI o e k).ok s c->∃d,(k d).ok s c/\aQ (DL ro w) Own.empty d b
 |[],_,[],k,c,_,hk=>⟨[],hk,trivial⟩
 |x::r,x'::r',v::vr,k,c,hr,hk=>by
  simp only[NI]at hk;obtain⟨y,i,p⟩:=Pv h hr.1 hk;obtain⟨d,j,m⟩:=Gt h hr.2 i;exact⟨y::d,j,p,m⟩
 |_::_,[],_,_,_,_,hk=>hk.elim
 |[],_,_::_,_,_,hr,_=>hr.elim
 |_::_,_,[],_,_,hr,_=>hr.elim
def T2(ro:RO)(c:RO)(d:Nat):RO:=λb o=>if b<d then ro b o else c b o
theorem Bk{z:RO}{C:Nat}(h:∀b o,b<C->z b o=DL ro w b o){o H:Own}{r:SV}{v:Value}(c:Rel z o r v)(D:xM r=true)(J:Dn r):Rel (T2 ro z C) H r v:=by
 cases r<;>simp[xM]at D
 . rw[jJ c];exact .bool _ _
 . rw[nX c];exact .tt _
 . rw[qD c];exact .ff _
 . rw[aK c];exact .int _ _ _
 . rw[dR c];exact .str _ _
 . rw[gh c];exact .aq _
 . subst D;rcases dE c with⟨u,A,cap,B⟩|⟨b,K,cap,F,B,m,u,L,M⟩
   . subst u;rw[B];exact .fe _ _ _ _ _ _ rfl
   . rename_i len f;rw[B];have cell:∀i j d,i<len->(f i)[j]?=some d->∃k n,d=.int k n/\F (i*1+j)=.int k n:=λi j d x y=>by
      have G:=J i x;rw[Js]at G;have N:=G d (Y1 y);cases d<;>simp[isI]at N
      exact⟨_,_,rfl,aK (M i j _ x y)⟩
     refine .bF _ _ _ _ b K cap F m u (λk O=>?_) (λi j d x y=>?_)
     . have p:k<len:=by omega
       obtain⟨q,n,_,e⟩:=cell k 0 _ p (J4 (by rw[u k p];omega));simp only[JU,Jv]at e;have:=L k O;unfold T2;split
       . rename_i R;rw[h _ _ R,e]at this;rw[e];exact R7 this
       . exact this
     . obtain⟨q,n,X,Z⟩:=cell i j d x y;rw[X,Z];exact .int _ _ _
theorem Gs:∀{l:List ar},El l=true->G9 l->∀{k:Nat}{b:SV},flat l k=some b->xM b=true/\Dn b
 |[],_,_,k,b,h=>by cases h
 |.s v::r,ht,hp,k,b,h=>by
  simp only[El,J2]at ht;cases k with
  |zero=>rw[cC]at h;simp only[J3]at h;subst h;exact⟨ht.1,hp.1⟩
  |succ k=>rw[cB]at h;exact Gs ht.2 hp.2 h
 |.a _ _ _::_,ht,_,k,b,h=>by simp[El]at ht
theorem AA{d:RO}{e:Nat}(c:∀b o,b<e->d b o=DL ro w b o){o p:Own}{r:SV}{v:Value}(h:Rel d o r v)(i:Be r=true)(j:Co r):Rel (T2 ro d e) p r v:=by
 cases r
 case agg l=>
  obtain⟨z,q,u,x⟩:=cU h;rw[q];refine .agg _ _ _ u λk y m=>?_
  obtain⟨t1,t2⟩:=Gs i j m;exact Bk c (x k y m) t1 t2
 all_goals exact Bk c h i j
theorem Er:∀{l:List SV},EX l=true->HW l->∀{i:Nat}{b:SV},l[i]?=some b->Be b=true/\Co b
 |[],_,_,i,b,h=>by simp at h
 |v::r,ht,hp,i,b,h=>by
  simp only[EX,J2]at ht;cases i with
  |zero=>simp only[Xy,J3]at h;subst h;exact⟨ht.1,hp.1⟩
  |succ i=>simp only[Yb]at h;exact Er ht.2 hp.2 h
theorem OG{d:RO}{e:Nat}(c:∀b o,b<e->d b o=DL ro w b o){o p:Own}{r:SV}{v:Value}(h:Rel d o r v)(j:thin r=true)(k:Ig r):Rel (T2 ro d e) p r v:=by
 cases r
 case df l=>
  obtain⟨z,q,u,x⟩:=jt h;rw[q];refine .df _ _ _ u λi y m=>?_
  obtain⟨t1,t2⟩:=Er j k m;exact AA c (x i y m) t1 t2
 all_goals exact AA c h j k
theorem HH{r:SV}(h:thin r=true):od r=true:=by
 cases r<;>simp_all[thin,Be,xM,od]
 rename_i l;cases l with
 |nil=>simp
 |cons x r=>cases x<;>simp_all[EX,Be,xM]
theorem Ug {C:Nat->Option bB} (hC:∀f c,C f=some c->nh P f c) (h:bA E ro own s w a) {o:Oper} {f nid:Nat} {xs:List SV} {vals:Array Value} (hrun:∀fn,P.funcs[f]?=some fn->fn.body.isSome=true->(fn.name== "runtime.NumGoroutine")=false->(execOp a.eval o).run P w=.ok (.enter f vals) w)
 (hx:aQ ro own xs vals.toList) {ws} (hk:(UK E.N nid C o.dst f xs).ok s ws):fW E P o s w a ws:=by
 unfold UK at hk;split at hk
 case h_2=>exact hk.elim
 rename_i c hc;have hok:=hC f c hc;obtain⟨xs',ws',ro2,hk2,hle,hs,hr,hfz⟩:=ko (s:=s) ⟨λ_ _=>rfl,λ_=>.inl rfl⟩ h hx hk;clear hk;split at hk2
 case h_2=>exact hk2.elim
 rename_i p r hpr;obtain⟨fn,e1,e2,e3⟩:=hok.fn;intro Q;unfold Oper.wp;rw[hrun fn e1 e2 e3];have fin:p->(∀{v:Value}{R':RO}{w':World},bA E R' own (s.apply ws') w' a->uc R' w.heap.size w' r v->dL E (s.apply ws) w' (a.put o.dst v))->o.upon P a (λa' w'=>dL E (s.apply ws) w' a') Q (.ok (.enter f vals) w):=by
  intro hp hfin;show Calls P f vals w _
  refine(hok.calls xs' p r hpr hp ro2 w vals hs.cJ hr).mono ?_;rintro e w' ⟨v,R',rfl,hv,hR,hR2,hR3,hb⟩;exact hfin (hs.called hb hR hR2 hR3) hv
 have fresh:∀{e es n:Nat}{g:Nat->List SV}{x:SV},(wV E.N nid o.dst p ws' e es n g x).ok s ws->(∀{v:Value}{R':RO}{w':World}{own':Own},uc R' w.heap.size w' r v->∃v0,BI R' w.heap.size w' e es n g v0/\∀own':Own,Rel R' own' (.sl nid 0 0 n) v0->own'.le own'->Rel R' own' x v)->o.upon P a (λa' w'=>dL E (s.apply ws) w' a') Q (.ok (.enter f vals) w):=by
  intro e es n g x hk3 hval;unfold wV at hk3;split at hk3
  case h_2=>exact hk3.elim
  rename_i d hd;split at hk3
  case isFalse=>exact hk3.elim
  rename_i hdN;obtain⟨hp,hk3⟩:=hk3;obtain⟨hfr,hk3⟩:=kC hk3;have hws:ws=ws'++(lO nid true (some e) es [.a n es g]++[(.tm d,.v x)]):=hk3.symm;subst hws;refine fin hp λ{v R' w'} hs' hv=>?_
  obtain⟨v0,hF,hx0⟩:=hval (own':=own) hv;obtain⟨ob,cap,ho1,ho2⟩:=hF.open;have hfr':(s.apply ws') (.mt nid)=.m none:=hfz.free hfr;obtain⟨own',hle',k1,k2,k3,k4,hs3⟩:=hs'.adopt hfr' (es:=es) (n:=n) (cap:=cap) (f:=g) (e:=e) (ob:=ob) (λhb=>(ho1 hb).1) (λb hb=>by
   obtain⟨_,cs,c1,c2,c3,c4,c5,c6,c7⟩:=ho2 b hb;exact⟨cs,Jn h.base c1,c2,c3,c4,c5,c6,λk sv hk=>(c7 k sv hk).own (Own.empty_le _)⟩) (λid m b hm hz hb hob=>by
   obtain⟨_,cs,c1,_⟩:=ho2 b hob;obtain⟨cs',e',lo',hi',hh,_⟩:=((hs.gK id m hm).live b hb hz).body;have:=(K3.1 hh).1;omega)
  have hsl:Rel R' own' (.sl nid 0 0 n) v0:=by
   cases ob with
   |none=>
    obtain⟨c1,c2⟩:=ho1 rfl;rw[c2,c1];exact .Es _ _ _ _ _ k1 rfl rfl
   |some b=>
    obtain⟨c1,cs,_,_,_,_,_,c6,_⟩:=ho2 b rfl;have:=Rel.sl (ro:=R') own' nid 0 0 n b k1 (by rw[k2];omega);rw[k2]at this;rw[c1];simpa using this
  rw[hd,aM,aM,kA];exact⟨_,own',hs3.put hdN (hx0 own' hsl (.refl _))⟩
 split at hk2
 case h_1=>
  unfold Ok at hk2;obtain⟨ys,hk3,hys⟩:=Gt h hx hk2;split at hk3
  case h_2=>exact hk3.elim
  rename_i p2 r2 hpr2;split at hk3
  case h_2=>exact hk3.elim
  rename_i hth;have fin2:p2->Ig r2->(∀{v:Value}{R':RO}{w':World},bA E R' own s w' a->Rel R' own r2 v->dL E (s.apply ws) w' (a.put o.dst v))->o.upon P a (λa' w'=>dL E (s.apply ws) w' a') Q (.ok (.enter f vals) w):=by
   intro hp hp2 hfin;show Calls P f vals w _
   refine(hok.calls ys p2 r2 hpr2 hp (DL ro w) w vals (Vg h.cJ) hys).mono ?_;rintro e w' ⟨v,R',rfl,hv,hR,hR2,hR3,hb⟩;refine hfin (R':=T2 ro R' w.heap.size) (h.called hb (λb o v hv=>?_) (λb o v hv=>?_) (λb o hb=>?_)) (OG hR3 (hv.plain (HH hth)) hth hp2)
   . unfold T2;split
     . exact hv
     . exact hR _ _ _ (CI _ _ _ _ _ hv)
   . unfold T2 at hv;split at hv
     . exact hR2 _ _ _ (hR _ _ _ (CI _ _ _ _ _ hv))
     . exact hR2 _ _ _ hv
   . simp[T2,hb]
  split at hk3
  . rename_i d hd;split at hk3
    case isFalse=>exact hk3.elim
    rename_i hdN;obtain⟨hp,hp2,hk3⟩:=hk3;have hws:ws=[(.tm d,.v r2)]:=hk3.symm;subst hws;refine fin2 hp hp2 λhs' hv=>?_
    rw[hd,kA];exact⟨_,own,hs'.put hdN hv⟩
  . rename_i hd;obtain⟨hp,hp2,hk3⟩:=hk3;have hws:ws=[]:=hk3.symm;subst hws;refine fin2 hp hp2 λhs' hv=>?_
    rw[hd];exact⟨_,own,hs'⟩
 split at hk2
 . refine fresh hk2 λhv=>⟨_,hv,λown' hr _=>hr⟩
 . refine fresh hk2 λ{v R' w' own'} hv=>?_
   obtain⟨v0,vs,rfl,hF,hrs⟩:=hv;refine⟨v0,hF,λown' hr _=>?_⟩;refine .df _ _ _ (by simp[hrs.length]) λi sv hi=>?_
   cases i with
   |zero=>simp at hi;subst hi;simpa using hr
   |succ i=>
    simp at hi;obtain⟨u,hu,hru⟩:=hrs.at i sv hi;have:=hru.own (Own.empty_le own');simpa[Jf,hu]using this
 . rename_i hn1 hn2;have hpl:∀{R':RO}{B:Nat}{w':World}{v:Value},uc R' B w' r v->Rel R' Own.empty r v:=by
    intro R' B w' v hv;unfold uc at hv;split at hv
    . exact absurd rfl (hn1 _ _ _ _)
    . exact absurd rfl (hn2 _ _ _ _ _)
    . exact hv
   split at hk2
   . rename_i d hd;split at hk2
     case isFalse=>exact hk2.elim
     rename_i hdN;obtain⟨hp,hk2⟩:=hk2;have hws:ws=ws'++[(.tm d,.v r)]:=hk2.symm;subst hws;refine fin hp λhs' hv=>?_
     rw[hd,aM,kA];exact⟨_,own,hs'.put hdN ((hpl hv).own (Own.empty_le _))⟩
   . rename_i hd;obtain⟨hp,hk2⟩:=hk2;have hws:ws=ws':=hk2.symm;subst hws;refine fin hp λhs' hv=>?_
     rw[hd];exact⟨_,own,hs'⟩
theorem uJ {f:Nat} {args:Array Value} {fn:Func} (h1:P.funcs[f]?=some fn) (h2:fn.body.isSome=true) (h3:(fn.name== "runtime.NumGoroutine")=false):(callFunc f args).run P w=.ok (.enter f args) w:=by
 have h4:fn.body.isNone=false:=by cases hb:fn.body<;>simp[hb]at h2⊢
 simp only[callFunc,Sem.run_bind,run_program,Result.andThen_ok,h1,h3,h4,Jr,JF,Sem.run_pure]
theorem Pr{C:Nat->Option bB}(hC:∀f c,C f=some c->nh P f c)(h:bA E ro own s w a){o:Oper}{c:Call}{M:Nat}(H:o.op=.call c){ws}(F:(Hn P E.N M C o.dst c).ok s ws):fW E P o s w a ws:=by
 unfold Hn at F;split at F
 . rename_i g i;obtain⟨x',hx,d⟩:=aZ h F;clear F;split at d
   case h_2=>exact d.elim
   rename_i f ca cb;obtain⟨O,G,F⟩:=ku h d;clear d;obtain⟨va,vb,D,R,X⟩:=Hc hx;refine Ug hC h (f:=f) (vals:=va++c.args.map a.eval++vb) (λfn e1 e2 e3=>?_) ?_ F
   . unfold execOp;simp only[H,resolve,i,D,Deferred.ofValue,Sem.run_bind,Sem.run_pure,Result.andThen_ok,invoke];exact uJ e1 e2 e3
   . simp only[Array.toList_append,Array.toList_map];exact(R.append G).append X
 . rename_i b i;obtain⟨O,G,d⟩:=ku h F;clear F;have J:∀{x:SV},O=[x]->∃v,c.args.map a.eval= #[v]/\Rel ro own x v:=by
    rintro x rfl
    match Z:c.args.toList.map a.eval,G with
    |[v],hh=>exact⟨v,by rw[<-Array.toList_inj];simpa using Z,hh.1⟩
   have j:∀{x y:SV},O=[x,y]->∃v u,c.args.map a.eval= #[v,u]/\Rel ro own x v/\Rel ro own y u:=by
    rintro x y rfl
    match Z:c.args.toList.map a.eval,G with
    |[v,u],hh=>exact⟨v,u,by rw[<-Array.toList_inj];simpa using Z,hh.1,hh.2.1⟩
   split at d
   . rename_i x t K;obtain⟨v,D,hr⟩:=J rfl;have A:c.argTypes= #[t]:=by rw[<-Array.toList_inj];exact K
     obtain⟨n,L,ac⟩:=run_len (P:=P) (w:=w) (n:=0) hr d;refine aP h (v:=.int .i64 n) ?_ (.int _ _ _) ac;rw[aT H i,A,D];have:∀ty,(Builtin.len_ #[t] ty #[v]).run P w=(Builtin.len_ #[t] 0 #[v]).run P w:=λ_=>rfl
     simp[builtin,this,L]
   . rename_i x y;obtain⟨v,u,D,m,r⟩:=j rfl;unfold oF at d;split at d
     case h_2=>exact d.elim
     rename_i z B;unfold XF at B;split at B
     case h_2=>cases B
     rename_i k p k' q;split at B
     case isFalse=>cases B
     rename_i e;subst e;simp at B;subst B;refine aP h (v:=.int k (if q<p then q else p)) ?_ (.int _ _ _) d;rw[aT H i,D,aK m,aK r];simp[builtin,Builtin.min_,Builtin.min2]
   . rename_i x y;obtain⟨v,u,D,m,r⟩:=j rfl;unfold oF at d;split at d
     case h_2=>exact d.elim
     rename_i z B;unfold Ga at B;split at B
     case h_2=>cases B
     rename_i k p k' q;split at B
     case isFalse=>cases B
     rename_i e;subst e;simp at B;subst B;refine aP h (v:=.int k (if q>p then q else p)) ?_ (.int _ _ _) d;rw[aT H i,D,aK m,aK r];simp[builtin,Builtin.max_,Builtin.max2]
   . rename_i x y t t' K;obtain⟨v,u,D,m,r⟩:=j rfl;split at d
     . rename_i e;subst e;have A:c.argTypes= #[t,t]:=by rw[<-Array.toList_inj];exact K
       exact zT h H i A D m r d
     . have A:c.argTypes= #[t,t']:=by rw[<-Array.toList_inj];exact K
       exact DP h H i A D m r d
   . rename_i x y t t' K;obtain⟨v,u,D,m,r⟩:=j rfl;have A:c.argTypes= #[t,t']:=by rw[<-Array.toList_inj];exact K
     exact Pt h H i A D m r d
   . exact d.elim
 . exact F.elim
theorem Ci(h:bA E ro own s w a){o:Oper}{f:Nat}{x y:Array Operand}(p:o.op=.makeFunc (.func f) x y){ws}(e:(jI x.toList λx=>jI y.toList λy=>bm E.N o.dst (.fn f x y)).ok s ws):fW E P o s w a ws:=by
 obtain⟨q,b,c⟩:=ku h e;clear e;obtain⟨r,d,e⟩:=ku h c;clear c;refine aP h (v:=.func (.func f) (x.map a.eval) (y.map a.eval)) ?_ (.fn _ _ _ _ _ _ ?_ ?_ ?_ ?_) e
 . unfold execOp;simp[p,Instr.makeFunc]
 . simpa using b.length.symm
 . simpa using d.length.symm
 . intro i j k;obtain⟨u,hu,m⟩:=b.at i j k;rw[Jf,<-Array.getElem?_toList,Array.toList_map,hu];exact m
 . intro i j k;obtain⟨u,hu,m⟩:=d.at i j k;rw[Jf,<-Array.getElem?_toList,Array.toList_map,hu];exact m
theorem foldl_push(b:Ω):∀(l:List UInt8),(b.foldl (λr n=>r.push (UInt8.ofNat n.toNat)) (⟨l.toArray⟩:ByteArray))=⟨(l++b.map λn=>UInt8.ofNat n.toNat).toArray⟩:=by
 induction b with
 |nil=>intro l;simp
 |cons n b c=>
  intro l;have e:(⟨l.toArray⟩:ByteArray).push (UInt8.ofNat n.toNat)=⟨(l++[UInt8.ofNat n.toNat]).toArray⟩:=by simp[ByteArray.push]
  rw[List.foldl_cons,e,c];simp
theorem Bq(h:bA E ro own s w a){o:Oper}{F:Nat}{S D:TypeId}{x:Operand}(O:o.op=.convert S D x){ws}{x':SV}(R:Rel ro own x' (a.eval x))(d:(yQ P E.N F o.dst S D x').ok s ws):fW E P o s w a ws:=by
 unfold yQ at d;split at d
 . rename_i e X Z;split at d
   case h_2=>exact d.elim
   rename_i hE;obtain⟨k,g,y,G⟩:=pJ h R d;obtain⟨ac,y⟩:=y;have key:∃A c,a.eval x=.slice A k c/\(Conv.bytesToString (.slice A k c)).run P w=.ok (.string ⟨(bytesOf k g).toArray⟩) w:=by
    rcases G with⟨rfl,A,c,z⟩|⟨b,off,c,z,B⟩
    . refine⟨A,c,z,?_⟩;cases A with
      |none=>simp[Conv.bytesToString,bytesOf];rfl
      |some ad=>
       have:=run_bytesToString (P:=P) w ad 0 c [] (by simpa using run_loadCells_list (P:=P) w ad [] (by simp));rw[this];simp[bytesOf];rfl
    . refine⟨_,c,z,?_⟩
      let r:Ω:=(List.range k).map λj=>match g j with|[.int .u8 n]=>n|_=>0
      have H:∀j,j<k->∃n,g j=[.int .u8 n]:=λj q=>by
       have:=ac j q;unfold isByte at this;split at this
       . exact⟨_,by assumption⟩
       . cases this
      have hl:(loadCells ⟨b,off,none⟩ k).run P w=.ok (r.map (Value.int .u8)).toArray w:=by
       have:=run_loadCells_list (P:=P) w ⟨b,off,none⟩ (r.map (Value.int .u8)) (λj v q=>by
        have p:=(Jb.1 q).1;simp only[r,Qj,Zd]at p;obtain⟨n,M⟩:=H j p;obtain⟨u,hu,hr⟩:=B j 0 p (by omega);have:=hr (.int .u8 n) (by rw[M];rfl);have al:=aK this;simp[r,p,M]at q;rw[dU,<-q,<-al];simpa using hu)
       simpa[r]using this
      have:=run_bytesToString (P:=P) w ⟨b,off,none⟩ k c r hl;rw[this];have e2:=foldl_push r [];have e3:(ByteArray.empty:ByteArray)=⟨([]:List UInt8).toArray⟩:=rfl;rw[e3,e2]
      congr 4
      simp only[Jj,r,List.map_map,bytesOf];refine Xl λj q=>?_
      obtain⟨n,M⟩:=H j (Kn.1 q);simp[M,byteOf]
   obtain⟨A,c,z,m⟩:=key;refine aP h (v:=.string ⟨(bytesOf k g).toArray⟩) ?_ (.str _ _) y;unfold execOp;have:=run_convert_bytes_string (P:=P) w S D e A k c X hE Z;simp only[O,z];simp only[Sem.run_bind,this,m,Result.andThen_ok];rfl
 . rename_i e X Z;split at d
   case h_2=>exact d.elim
   rename_i i hE;have z:=dR R;have m:=Lib.run_convert_string_bytes (P:=P) w S D e ⟨i.toArray⟩ X Z hE;have aq:=grownCap_ge w i.length 0 e;have J:(⟨i.toArray⟩:ByteArray).size=i.length:=by simp[ByteArray.size]
   have C:(Lib.bytesCells w e ⟨i.toArray⟩).size=grownCap w i.length 0 e:=by
    simp[Lib.bytesCells,J];omega
   refine qU h (cap:=grownCap w i.length 0 e) (v:=.slice (some ⟨w.heap.size,0,none⟩) i.length (grownCap w i.length 0 e)) (w':=Lib.bytesWorld w e ⟨i.toArray⟩) (cs:=Lib.bytesCells w e ⟨i.toArray⟩) (e:=e) (lo:=grownCap w i.length 0 e) (hi:=grownCap w i.length 0 e+1) ?_ rfl rfl rfl ?_ (λ_=>⟨i.length,_,rfl,aq,by rw[C];omega⟩) (by simp) ?_ (.inr ?_) (by simp) ?_ ?_ d
   . apply Xz;intro j;rw[Qv];split
     . subst j;rw[Lib.bytesWorld_at_new,C]
     . by_cases q:j<w.heap.size
       . exact Lib.bytesWorld_at_old w e _ j q
       . rw[Y2 (by rw[Lib.bytesWorld_size];omega),Y2 (by omega)]
   . unfold execOp;rw[J]at m;simp only[O,z];simp only[Sem.run_bind,m,Result.andThen_ok];rfl
   . rw[C];simp[aa,ar.size];omega
   . simp[aa,ar.size];omega
   . intro t sv K;have p:t<i.length:=by have:=cK K;simpa[aa,ar.size]using this
     rw[cy (by omega)]at K;simp only[Nat.div_one,Nat.mod_one,nQ]at K;simp at K;subst K;have:(Lib.bytesCells w e ⟨i.toArray⟩).getD t undef=.int .u8 ((i.getD t 0).toNat:Int):=by
      simp[Lib.bytesCells,Y3,p]
     rw[this];exact .int _ _ _
   . intro L k1 k2 k3 k4;have:=Rel.sl (ro:=ro) L F 0 0 i.length w.heap.size k1 (by rw[k2];omega);rw[k2]at this;simpa using this
 . unfold AV at d;split at d
   case h_2=>exact d.elim
   rename_i k' k k2 n h1 h2;refine aP h (v:=.int k (k.wrap n)) ?_ (.int _ _ _) d;unfold execOp;simp[O,aK R,convert,run_underlying h1,run_underlying h2,Conv.intToInt]
theorem PC(h:bA E ro own s w a){o:Oper}{b:Nat}{S D:TypeId}{x:Operand}(d:o.op=.convert S D x){ws}(e:(fR x (yQ P E.N b o.dst S D)).ok s ws):fW E P o s w a ws:=by
 obtain⟨j,i,c⟩:=aZ h e;exact Bq h d i c
theorem Eg{C:Nat->Option bB}(e:∀f c,C f=some c->nh P f c)(h:bA E ro own s w a){o:Oper}{d:Nat}{ws}(b:(kf P E.N C d o).ok s ws):fW E P o s w a ws:=by
 unfold kf at b;split at b
 . exact ES h (.inl (by assumption)) b
 . exact ES h (.inr (by assumption)) b
 . exact OC h (by assumption) b
 . exact Gh h (by assumption) b
 . exact snd_box h (by assumption) b
 . exact KX h (by assumption) b
 . exact M6 h (by assumption) b
 . split at b
   . exact UG h (by assumption) (by assumption) b
   . exact b.elim
 . exact Ah h (by assumption) b
 . exact Ae h (by assumption) b
 . exact snd_index h (by assumption) b
 . exact Y8 h (by assumption) b
 . exact UU h (by assumption) b
 . exact za h (by assumption) b
 . exact RL h (by assumption) b
 . exact Wo h (by assumption) b
 . exact PC h (by assumption) b
 . exact Al h (by assumption) b
 . exact Lh h (by assumption) b
 . exact GI h (by assumption) b
 . exact Ci h (by assumption) b
 . exact Pr e h (by assumption) b
 . exact b.elim
end
end Go.Sx
namespace Go.Sx
open Go Go.RowKit
variable [bW]
universe v
structure bg where
 tm : List SV
 en : List (lZ × List ar)
def bg.get(s:bg):Loc->Item
 |.tm t=>.v (s.tm.getD t .any)
 |.mt id=>.m ((s.en[id]?).map (·.1))
 |.sg id q=>.s (((s.en[id]?).bind λe=>e.2[q]?).getD (.s .any))
def bg.set(s:bg):Loc->Item->Option bg
 |.tm t,.v x=>if t<s.tm.length then some {s with tm:=s.tm.set t x}else none
 |.mt id,.m (some m)=>match s.en[id]? with
  |some (_,l)=>some {s with en:=s.en.set id (m,l)}
  |none=>if id=s.en.length then some {s with en:=s.en++[(m,List.replicate m.ns (.s .any))]}else none
 |.sg id q,.s x=>match s.en[id]? with
  |some (m,l)=>if q<l.length then some {s with en:=s.en.set id (m,l.set q x)}else none
  |none=>none
 |_,_=>none
theorem bg.tP{s p:bg}{l:Loc}{x:Item}(h:s.set l x=some p):p.get=St.put s.get l x:=by
 unfold bg.set at h;split at h
 . rename_i t x;split at h
   case isFalse=>cases h
   rename_i u;simp at h;subst h
   funext l
   cases l with
   |tm w=>
    simp only[bg.get,St.put,Loc.tm.injEq,J0,K6]
    by_cases e:t=w
    . subst e;simp[u]
    . simp[e,Yv e]
   |mt id=>simp[bg.get,St.put]
   |sg id q=>simp[bg.get,St.put]
 . rename_i id m;split at h
   . rename_i y z k;simp at h;subst h;obtain⟨d,i⟩:=Jb.1 k
     funext l
     cases l with
     |tm t=>simp[bg.get,St.put]
     |mt b=>
      simp only[bg.get,St.put,Loc.mt.injEq,K6]
      by_cases c:id=b
      . subst c;simp[d]
      . simp[c,Yv c]
     |sg b q=>
      simp only[bg.get,St.put,K6]
      by_cases c:id=b
      . subst c;simp[d,i]
      . simp[c]
   . rename_i k;split at h
     case isFalse=>cases h
     rename_i A;simp at h;subst h;subst A
     funext l
     cases l with
     |tm t=>simp[bg.get,St.put]
     |mt b=>
      simp only[bg.get,St.put,Loc.mt.injEq]
      by_cases c:b=s.en.length
      . subst c;simp
      . rcases Kv b s.en.length with j|j
        . simp[c,Ka j]
        . rw[J7 (by simp;omega),J7 j];simp[c]
     |sg b q=>
      simp only[bg.get,St.put]
      by_cases c:b=s.en.length
      . subst c;simp only[List.getElem?_concat_length,Xg,J7 (J1 _),Option.bind_none,Option.getD_none,reduceCtorEq,JF]
        by_cases r:q<m.ns
        . simp[r]
        . simp[r]
      . rcases Kv b s.en.length with j|j
        . simp[Ka j]
        . rw[J7 (by simp;omega),J7 j];simp
 . rename_i id q x;split at h
   case h_2=>cases h
   rename_i y z k;split at h
   case isFalse=>cases h
   rename_i B;simp at h;subst h;obtain⟨d,i⟩:=Jb.1 k
   funext l
   cases l with
   |tm t=>simp[bg.get,St.put]
   |mt b=>
    simp only[bg.get,St.put,K6]
    by_cases c:id=b
    . subst c;simp[d,i]
    . simp[c]
   |sg b C=>
    simp only[bg.get,St.put,Loc.sg.injEq,K6]
    by_cases c:id=b
    . subst c
      by_cases o:q=C
      . subst o;simp[d,B]
      . simp[d,i,o,Yv o]
    . simp[c,Yv c]
 . cases h
def bg.apply(s:bg):List (Loc×Item)->Option bg
 |[]=>some s
 |(l,x)::r=>match s.set l x with
  |some b=>b.apply r
  |none=>none
def bO{β:Sort v}:Nat->(Nat->β)->β
 |0,k=>k 0
 |n+1,k=>bO n λm=>k (m+1)
theorem iu{β:Sort v}:∀(n:Nat)(k:Nat->β),bO n k=k n
 |0,_=>rfl
 |n+1,k=>by simp only[bO,iu n]
def FF{β:Sort v}(m:lZ)(k:lZ->β):β:=
 match m with
 |⟨b,c,row,app,d,es,e⟩=>bO b λb=>bO d λd=>bO es λes=>
  let rest (c row:Bool):β:=match app with
   |none=>k ⟨b,c,row,none,d,es,e⟩
   |some t=>k ⟨b,c,row,some t,d,es,e⟩
  match c,row with
  |true,true=>rest true true
  |true,false=>rest true false
  |false,true=>rest false true
  |false,false=>rest false false
theorem nI{β:Sort v}(m:lZ)(k:lZ->β):FF m k=k m:=by
 obtain⟨c,b,row,app,d,es,e⟩:=m;simp only[FF,iu];cases b<;>cases row<;>cases app<;>rfl
def sC{β:Sort v}(x:SV)(k:SV->β):β:=
 match x with
 |.any=>k .any
 |.bool b=>k (.bool b)
 |.tt=>k .tt
 |.ff=>k .ff
 |.int a b=>k (.int a b)
 |.str a=>k (.str a)
 |.aq=>k .aq
 |.agg a=>k (.agg a)
 |.df a=>k (.df a)
 |.ptr a b=>bO a λa=>bO b λb=>k (.ptr a b)
 |.su a b c d e=>bO a λa=>bO b λb=>bO c λc=>bO e λe=>k (.su a b c d e)
 |.sl a b c d=>bO a λa=>bO b λb=>k (.sl a b c d)
 |.bF a b c=>bO a λa=>k (.bF a b c)
 |.rA a b c d e=>bO a λa=>bO e λe=>k (.rA a b c d e)
 |.fn a b c=>k (.fn a b c)
 |.DG=>k .DG
 |.emp=>k .emp
 |.z9 a=>bO a λa=>k (.z9 a)
 |.km=>k .km
 |.Gu=>k .Gu
 |.pn=>k .pn
 |.Gl e es n f=>k (.Gl e es n f)
 |.sy a b c d=>k (.sy a b c d)
 |.tg a=>k (.tg a)
theorem qZ{β:Sort v}(x:SV)(k:SV->β):sC x k=k x:=by cases x<;>simp only[sC,iu]
def kz{β:Sort v}:List ar->(List ar->β)->β
 |[],k=>k []
 |.s v::r,k=>sC v λv=>kz r λr=>k (.s v::r)
 |.a n es f::r,k=>kz r λr=>k (.a n es f::r)
theorem ox{β:Sort v}:∀(l:List ar)(k:List ar->β),kz l k=k l
 |[],_=>rfl
 |.s v::r,k=>by simp only[kz,qZ,ox r]
 |.a n es f::r,k=>by simp only[kz,ox r]
def C4{β:Sort v}(x:SV)(k:SV->β):β:=
 match x with
 |.agg l=>kz l λl=>k (.agg l)
 |x=>sC x k
theorem Bw{β:Sort v}(x:SV)(k:SV->β):C4 x k=k x:=by
 cases x
 case agg l=>exact ox l _
 all_goals (unfold C4;exact qZ _ k)
def qn{β:Sort v}:List SV->(List SV->β)->β
 |[],k=>k []
 |x::r,k=>C4 x λx=>qn r λr=>k (x::r)
theorem kJ{β:Sort v}:∀(l:List SV)(k:List SV->β),qn l k=k l
 |[],_=>rfl
 |x::r,k=>by simp only[qn,Bw,kJ r]
def vU{β:Sort v}(x:SV)(k:SV->β):β:=
 match x with
 |.df l=>qn l λl=>k (.df l)
 |.fn f a b=>qn a λa=>qn b λb=>k (.fn f a b)
 |x=>C4 x k
theorem Bm{β:Sort v}(x:SV)(k:SV->β):vU x k=k x:=by
 cases x
 case df l=>exact kJ l _
 case fn f a b=>simp only[vU,kJ]
 all_goals (unfold vU;exact Bw _ k)
def fU{β:Sort v}:List (Loc×Item)->(List (Loc×Item)->β)->β
 |[],k=>k []
 |(l,x)::r,k=>
  let go (l:Loc):β:=match x with
   |.v x=>vU x λx=>fU r λr=>k ((l,.v x)::r)
   |.m (some m)=>FF m λm=>fU r λr=>k ((l,.m (some m))::r)
   |.m none=>fU r λr=>k ((l,.m none)::r)
   |.s (.s v)=>sC v λv=>fU r λr=>k ((l,.s (.s v))::r)
   |.s (.a n es f)=>fU r λr=>k ((l,.s (.a n es f))::r)
  match l with
  |.tm t=>go (.tm t)
  |.mt i=>bO i λi=>go (.mt i)
  |.sg i q=>bO i λi=>bO q λq=>go (.sg i q)
theorem nN{β:Sort v}:∀(l:List (Loc×Item))(k:List (Loc×Item)->β),fU l k=k l
 |[],_=>rfl
 |(l,x)::r,k=>by
  have go:∀l,(match x with
   |.v x=>vU x λx=>fU r λr=>k ((l,.v x)::r)
   |.m (some m)=>FF m λm=>fU r λr=>k ((l,.m (some m))::r)
   |.m none=>fU r λr=>k ((l,.m none)::r)
   |.s (.s v)=>sC v λv=>fU r λr=>k ((l,.s (.s v))::r)
   |.s (.a n es f)=>fU r λr=>k ((l,.s (.a n es f))::r))=k ((l,x)::r):=by
   intro l;cases x with
   |v x=>simp only[Bm,nN r]
   |m x=>cases x<;>simp only[nI,nN r]
   |s x=>cases x<;>simp only[qZ,nN r]
  cases l<;>simp only[fU,iu]<;>exact go _
def wY:List SV->(List SV->Prop)->Prop
 |[],k=>k []
 |x::r,k=>wY r λr=>k (x::r)
theorem ye:∀(l:List SV)(k:List SV->Prop),wY l k=k l
 |[],_=>rfl
 |x::r,k=>by simp only[wY,ye r]
def xe:List ar->(List ar->Prop)->Prop
 |[],k=>k []
 |x::r,k=>xe r λr=>k (x::r)
theorem xX:∀(l:List ar)(k:List ar->Prop),xe l k=k l
 |[],_=>rfl
 |x::r,k=>by simp only[xe,xX r]
def xc:List (lZ×List ar)->(List (lZ×List ar)->Prop)->Prop
 |[],k=>k []
 |(m,l)::r,k=>xe l λl=>xc r λr=>k ((m,l)::r)
theorem xE:∀(l:List (lZ×List ar))(k:List (lZ×List ar)->Prop),xc l k=k l
 |[],_=>rfl
 |(m,l)::r,k=>by simp only[xc,xX,xE r]
def bg.force(s:bg)(k:bg->Prop):Prop:=wY s.tm λtm=>xc s.en λb=>k ⟨tm,b⟩
theorem bg.force_eq(s:bg)(k:bg->Prop):s.force k=k s:=by simp only[bg.force,ye,xE]
def KS{β:Sort v}(x:Item)(k:Item->β):β:=match x with
 |.v x=>vU x λx=>k (.v x)
 |.m (some m)=>FF m λm=>k (.m (some m))
 |.m none=>k (.m none)
 |.s (.s v)=>sC v λv=>k (.s (.s v))
 |.s (.a n es f)=>bO es λes=>k (.s (.a n es f))
theorem Di{β:Sort v}(x:Item)(k:Item->β):KS x k=k x:=by
 cases x with
 |v x=>simp only[KS,Bm]
 |m x=>cases x<;>simp only[KS,nI]
 |s x=>cases x<;>simp only[KS,qZ,iu]
def Tx.run(s:bg):Tx->List Loc->(List Loc->List (Loc×Item)->Prop)->Prop
 |.done b,R,k=>k R b
 |.rd l f,R,k=>KS (s.get l) λx=>(f x).run s (l::R) k
 |.AU p a,R,k=>p/\a.run s R k
 |.kK p _ a,R,k=>p/\a.run s R k
 |.fail,_,_=>False
theorem Tx.uZ{s:bg}:∀{t:Tx}{R:List Loc}{k:List Loc->List (Loc×Item)->Prop},t.run s R k->∃b c,t.ok s.get b/\k c b/\(∀l∈t.reads s.get,l∈c)/\∀l∈R,l∈c
 |.done b,R,k,h=>⟨b,R,rfl,h,by simp[Tx.reads],λ_ h=>h⟩
 |.rd l f,R,k,h=>by
  simp only[Tx.run,Di]at h;obtain⟨b,c,i,j,m,d⟩:=Tx.uZ (t:=f (s.get l)) h;refine⟨b,c,i,j,λo e=>?_,λo e=>d o (by simp[e])⟩;simp only[Tx.reads,Kd]at e;rcases e with rfl|e
  . exact d _ (by simp)
  . exact m o e
 |.AU p a,R,k,h=>by
  obtain⟨b,c,i,j,m,d⟩:=Tx.uZ (t:=a) h.2;exact⟨b,c,⟨h.1,i⟩,j,m,d⟩
 |.kK p _ a,R,k,h=>by
  obtain⟨b,c,i,j,m,d⟩:=Tx.uZ (t:=a) h.2;exact⟨b,c,⟨h.1,i⟩,j,m,d⟩
structure Ctx where
 P : Program
 N : Nat
 C : Nat -> Option bB
abbrev Tr:=List Loc×List Loc
def XA(b:Array Oper)(i:Nat):Bool:=b.toList.any λo=>match o.guard with
 |some (j,_)=>j==i
 |none=>false
def ir(b:Array Oper)(j:Nat):Option Tmp:=(b[j]?).bind (·.dst)
def lL(b:Option Tmp):List (Loc×Item):=match b with
 |some d=>[(.tm d,.v (.df []))]
 |none=>[]
def Iu(c:Array Oper)(i:Nat)(ws:List (Loc×Item))(k:List (Loc×Item)->Prop):Prop:=
 match ws with
 |[(.tm t,.v (.bool b))]=>(match XA c i with
  |true=>(b=true->k [(.tm t,.v .tt)])/\(b=false->k [(.tm t,.v .ff)])
  |false=>k ws)
 |ws=>k ws
def YW{α:Type}:List α->Nat->α->(List α->Prop)->Prop
 |[],_,_,_=>False
 |_::r,0,v,k=>k (v::r)
 |x::r,n+1,v,k=>YW r n v λr=>k (x::r)
theorem uD{α:Type}:∀{l:List α}{n:Nat}{v:α}{k:List α->Prop},YW l n v k->n<l.length/\k (l.set n v)
 |[],_,_,_,h=>h.elim
 |_::_,0,_,_,h=>⟨by simp,h⟩
 |x::r,n+1,v,k,h=>by
  obtain⟨b,c⟩:=uD (l:=r) h;exact⟨by simpa using b,c⟩
def Rp{α:Type}:List α->α->(List α->Prop)->Prop
 |[],v,k=>k [v]
 |x::r,v,k=>Rp r v λr=>k (x::r)
theorem Ip{α:Type}:∀(l:List α)(v:α)(k:List α->Prop),Rp l v k=k (l++[v])
 |[],_,_=>rfl
 |x::r,v,k=>by simp only[Rp,Ip r];rfl
def bg.MJ(s:bg)(l:Loc)(x:Item)(k:bg->Prop):Prop:=match s with
 |⟨tm,b⟩=>match l,x with
  |.tm t,.v x=>YW tm t x λtm=>k ⟨tm,b⟩
  |.mt id,.m (some m)=>match b[id]? with
   |some (_,l)=>YW b id (m,l) λb=>k ⟨tm,b⟩
   |none=>match Nat.beq id b.length with
    |true=>Rp b (m,List.replicate m.ns (.s .any)) λb=>k ⟨tm,b⟩
    |false=>False
  |.sg id q,.s x=>match b[id]? with
   |some (m,l)=>YW l q x λl=>YW b id (m,l) λb=>k ⟨tm,b⟩
   |none=>False
  |_,_=>False
theorem bg.uT{s:bg}{l:Loc}{x:Item}{k:bg->Prop}(h:s.MJ l x k):∃i,s.set l x=some i/\k i:=by
 obtain⟨tm,m⟩:=s;unfold bg.MJ at h;simp only at h;split at h
 . obtain⟨c,b⟩:=uD h;exact⟨_,by simp[bg.set,c],b⟩
 . split at h
   . rename_i d;obtain⟨c,b⟩:=uD h;exact⟨_,by simp[bg.set,d],b⟩
   . rename_i d;split at h
     case h_2=>exact h.elim
     rename_i e;rw[Ip]at h;have e:=Jd e;subst e;exact⟨_,by simp[bg.set],h⟩
 . split at h
   case h_2=>exact h.elim
   rename_i d;obtain⟨c,b⟩:=uD h;obtain⟨o,j⟩:=uD b;exact⟨_,by simp[bg.set,d,c],j⟩
 . exact h.elim
def ux(s:bg)(b:List (Loc×Item))(k:bg->Prop):Prop:=match b with
 |[]=>k s
 |(l,x)::r=>s.MJ l x λs=>ux s r k
def Me(s:bg)(d:Option Tmp)(k:bg->Prop):Prop:=match d with
 |none=>k s
 |some t=>match s.get (.tm t)with
  |.v (.df [])=>k s
  |_=>ux s (lL d) k
def mJ(X:Ctx)(c:Array Oper):List Oper->Nat->bg->List Tr->(bg->List Tr->Prop)->Prop
 |[],_,s,tr,k=>k s tr
 |o::rest,i,s,tr,k=>
  let wanted (R:List Loc):Prop:=bO s.en.length λe=>(kf X.P X.N X.C e o).run s R λR d=>fU d λd=>Iu c i d λd=>ux s d λh=>mJ X c rest (i+1) h (tr++[(R,d.map (·.1))]) k
  let b (R:List Loc):Prop:=Me s o.dst λh=>mJ X c rest (i+1) h (tr++[(R,(lL o.dst).map (·.1))]) k
  match o.guard with
  |none=>wanted []
  |some (j,want)=>match ir c j with
   |some t=>match s.get (.tm t)with
    |.v .tt=>if want then wanted [.tm t]else b [.tm t]
    |.v .ff=>if want then b [.tm t]else wanted [.tm t]
    |.v (.df [])=>b [.tm t]
    |_=>False
   |none=>False
def nV(E:Env)(P:Program)(b:Array Oper)(i:Nat)(s:St)(R:List Loc)(h:List (Loc×Item)):Prop:=
 ∀c:St,(∀l∈R,c l=s l)->∀(w:World)(a:Act)(Q:Exit->Act->World->Prop)(K:Act->World->Prop),dL E c w a->(∀d e,dL E (c.apply h) e d->K d e)->wpOp P b Q i K a w
structure Step where
 R : List Loc
 ws : List (Loc × Item)
section
variable {E : Env}
theorem dL.Rs{s:St}{w:World}{a:Act}{t:Nat}{x y:SV}(h:dL E (s.put (.tm t) (.v x)) w a)(p:∀ro own v,Rel ro own x v->Rel ro own y v):dL E (s.put (.tm t) (.v y)) w a:=by
 obtain⟨ro,own,h⟩:=h;have c:∀l,(∀j,l≠ .tm j)->(s.put (.tm t) (.v y)) l=(s.put (.tm t) (.v x)) l:=λl z=>by rw[St.bh _ _ (z t),St.bh _ _ (z t)]
 have r:∀i n,(s.put (.tm t) (.v y)).az i n=(s.put (.tm t) (.v x)).az i n:=λi n=>St.dc λq _=>c _ (by simp)
 refine⟨ro,own,{below:=h.below,base:=h.base,defs:=h.defs,size:=h.size,tm:=?_,cJ:=h.cJ,uU:=h.uU,gK:=?_,fr:=?_,mY:=?_,inj:=?_,kk:=h.kk,mp:=h.mp' (.refl _) (.refl _) (λid m k u=>⟨by rw[c _ (by simp)]at k;exact k,λn e f A=>by rw[c _ (by simp)]at A;exact A⟩) (λ_ _ _ _ h=>h)}⟩
 . intro j B o
   by_cases e:j=t
   . subst e;rw[St.cQ]at o;simp at o;subst o;exact p _ _ _ (h.tm j x (St.cQ _ _ _))
   . rw[St.bh _ _ (by simpa using e)]at o;exact h.tm j B (by rw[St.bh _ _ (by simpa using e)];exact o)
 . intro i m d;rw[c _ (by simp)]at d;rw[r];exact h.gK i m d
 . intro i d;rw[c _ (by simp)]at d;exact h.fr i d
 . intro i m d;rw[c _ (by simp)]at d;exact h.mY i m d
 . intro i C m D b k u;rw[c _ (by simp)]at k u;exact h.inj i C m D b k u
theorem T8{d:RO}{c:Own}{v:Value}{b:Bool}(e:b=true)(h:Rel d c (.bool b) v):Rel d c .tt v:=by
 rw[jJ h,e];exact .tt _
theorem S3{d:RO}{c:Own}{v:Value}{b:Bool}(e:b=false)(h:Rel d c (.bool b) v):Rel d c .ff v:=by
 rw[jJ h,e];exact .ff _
theorem yV{s:St}{w:World}{a:Act}{c:Array Oper}{j t:Nat}(h:dL E s w a)(i:ir c j=some t)(m:t<E.N){x:SV}(p:s (.tm t)=.v x):∀v,(∃ro own,Rel ro own x v/\a.tmps.getD t undef=v)->yielded c a.tmps j=match v with|.bool b=>some b|_=>none:=by
 rintro v ⟨ro,own,q,k⟩;obtain⟨_,_,o⟩:=h;have d:t<a.tmps.size:=by rw[o.size];exact m
 unfold yielded;unfold ir at i;have e:a.tmps[t]?=some v:=by
  rw[Jf,getElem?_pos a.tmps t d]at k;rw[getElem?_pos a.tmps t d];simpa using k
 rw[i];simp only[Xg,e];cases v<;>rfl
theorem Sk:∀{b:List (Loc×Item)}{s:bg}{k:bg->Prop},ux s b k->∃c:bg,c.get=St.apply s.get b/\k c
 |[],s,k,h=>⟨s,rfl,h⟩
 |(l,x)::r,s,k,h=>by
  obtain⟨o,d,e⟩:=bg.uT h;obtain⟨i,j,m⟩:=Sk e;exact⟨i,by rw[j,bg.tP d];rfl,m⟩
theorem L6{d:Option Tmp}{s:bg}{k:bg->Prop}(h:Me s d k):∃b:bg,b.get=St.apply s.get (lL d)/\k b:=by
 unfold Me at h;split at h
 . exact⟨s,rfl,h⟩
 . rename_i t;split at h
   . rename_i c;refine⟨s,?_,h⟩
     funext l
     simp only[lL,St.apply]
     by_cases e:l=.tm t
     . subst e;rw[St.cQ,c]
     . rw[St.bh _ _ e]
   . exact Sk h
theorem NU{c:Array Oper}{i:Nat}{d:List (Loc×Item)}{k:List (Loc×Item)->Prop}(h:Iu c i d k):k d\/∃t b,d=[(.tm t,.v (.bool b))]/\((b=true/\k [(.tm t,.v .tt)])\/(b=false/\k [(.tm t,.v .ff)])):=by
 unfold Iu at h;split at h
 . rename_i t b;split at h
   . refine .inr ⟨t,b,rfl,?_⟩;cases b with
     |true=>exact .inl ⟨rfl,h.1 rfl⟩
     |false=>exact .inr ⟨rfl,h.2 rfl⟩
   . exact .inl h
 . exact .inl h
theorem tR{X:Ctx}(hN:E.N=X.N)(hC:∀f c,X.C f=some c->nh X.P f c){q:Array Oper}:∀{l:List Oper}{i:Nat}{s:bg}{L:List Tr}{k:bg->List Tr->Prop},mJ X q l i s L k->(∀j,j<l.length->l[j]?=q[i+j]?)->(∀o∈l,∀t,(match o.guard with|some (j,_)=>ir q j=some t->t<E.N|none=>True))->
 (∀o∈l,∀d,o.dst=some d->d<E.N)->
 ∃(r:List Step)(B:bg),r.length=l.length/\B.get=St.apply s.get (r.flatMap (·.ws))/\k B (L++r.map λx=>(x.R,x.ws.map (·.1)))/\∀(m:Nat)(x:Step),r[m]?=some x->nV E X.P q (i+m) (St.apply s.get ((r.take m).flatMap (·.ws))) x.R x.ws
 |[],i,s,L,k,h,_,_,_=>⟨[],s,rfl,rfl,by simpa[mJ]using h,by simp⟩
 |o::rest,i,s,L,k,h,hops,hgs,hds=>by
  have al:q[i]?=some o:=by simpa using (hops 0 (by simp)).symm
  have fin:∀{R:List Loc}{D:List (Loc×Item)},nV E X.P q i s.get R D->(∃e:bg,e.get=St.apply s.get D/\mJ X q rest (i+1) e (L++[(R,D.map (·.1))]) k)->
   ∃(r:List Step)(B:bg),r.length=(o::rest).length/\B.get=St.apply s.get (r.flatMap (·.ws))/\k B (L++r.map λx=>(x.R,x.ws.map (·.1)))/\∀(m:Nat)(x:Step),r[m]?=some x->nV E X.P q (i+m) (St.apply s.get ((r.take m).flatMap (·.ws))) x.R x.ws:=by
   intro R D Z hc;obtain⟨e,az,H⟩:=hc;obtain⟨r,B,h1,h2,h3,h4⟩:=tR hN hC H (λj hj=>by have:=hops (j+1) (by simpa using hj);simpa[Kt,JS 1 j]using this) (λo' ac=>hgs o' (by simp[ac])) (λo' ac=>hds o' (by simp[ac]));rw[az]at h2 h4;refine⟨⟨R,D⟩::r,B,by simp[h1],by simp[h2,aM],by simpa[Jq]using h3,λm x F=>?_⟩;cases m with
   |zero=>simp at F;subst F;exact Z
   |succ m=>
    simp at F;have:=h4 m x F;simp only[Qu,Xq,aM];rw[show i+(m+1)=i+1+m from by omega];exact this
  have wanted:∀{R0:List Loc},(∀(e:St)(w:World)(a:Act),(∀l∈R0,e l=s.get l)->dL E e w a->Region.wanted o (yielded q a.tmps)=true)->
   ((kf X.P X.N X.C s.en.length o).run s R0 λR D=>fU D λD=>Iu q i D λD=>ux s D λe=>mJ X q rest (i+1) e (L++[(R,D.map (·.1))]) k)->
   ∃(r:List Step)(B:bg),r.length=(o::rest).length/\B.get=St.apply s.get (r.flatMap (·.ws))/\k B (L++r.map λx=>(x.R,x.ws.map (·.1)))/\∀(m:Nat)(x:Step),r[m]?=some x->nV E X.P q (i+m) (St.apply s.get ((r.take m).flatMap (·.ws))) x.R x.ws:=by
   intro R0 J aq;obtain⟨aw,R,aD,H,hR,bb⟩:=Tx.uZ aq;rw[nN]at H;have base:∀(e:St),(∀l∈R,e l=s.get l)->∀(w:World)(a:Act)(Q:Exit->Act->World->Prop)(K:Act->World->Prop),dL E e w a->(∀M O,dL E (e.apply aw) O M->K M O)->wpOp X.P q Q i K a w:=by
    intro e p w a Q K u hK;unfold wpOp;rw[al];simp only[J e w a (λl hl=>p l (bb l hl)) u,JE];left;obtain⟨ro,own,A⟩:=u;have ax:(kf X.P E.N X.C s.en.length o).ok e aw:=by
     rw[hN];exact Tx.local _ (λl hl=>p l (hR l hl)) _ aD
    exact Oper.wp_mono (λM O h'=>hK M O h') (Eg hC A ax Q)
   have bd:=NU H;clear H;rcases bd with ad|⟨t,b,rfl,ad⟩
   . exact fin base (Sk ad)
   . rcases ad with⟨hb,H⟩|⟨hb,H⟩
     . refine fin (λe p w a Q K u hK=>base e p w a Q K u λM O h'=>hK M O ?_) (Sk H);exact dL.Rs h' λ_ _ _ G=>T8 hb G
     . refine fin (λe p w a Q K u hK=>base e p w a Q K u λM O h'=>hK M O ?_) (Sk H);exact dL.Rs h' λ_ _ _ G=>S3 hb G
  have y:∀{R0:List Loc},(∀(e:St)(w:World)(a:Act),(∀l∈R0,e l=s.get l)->dL E e w a->Region.wanted o (yielded q a.tmps)=false)->
   (Me s o.dst λe=>mJ X q rest (i+1) e (L++[(R0,(lL o.dst).map (·.1))]) k)->
   ∃(r:List Step)(B:bg),r.length=(o::rest).length/\B.get=St.apply s.get (r.flatMap (·.ws))/\k B (L++r.map λx=>(x.R,x.ws.map (·.1)))/\∀(m:Nat)(x:Step),r[m]?=some x->nV E X.P q (i+m) (St.apply s.get ((r.take m).flatMap (·.ws))) x.R x.ws:=by
   intro R0 J H;refine fin (λe p w a Q K u hK=>?_) (L6 H);unfold wpOp;rw[al];simp only[J e w a p u,Jr,JF];refine hK _ _ ?_;obtain⟨ro,own,A⟩:=u;cases hd:o.dst with
   |none=>exact⟨ro,own,A⟩
   |some d=>exact⟨ro,own,A.put (hds o (by simp) d hd) (.df _ [] #[] rfl (by simp))⟩
  simp only[mJ,iu]at h;split at h
  . rename_i z;exact wanted (R0:=[]) (λ_ _ _ _ _=>by simp[Region.wanted,z]) h
  . rename_i j want z;split at h
    case h_2=>exact h.elim
    rename_i t hj;have be:t<E.N:=by
     have:=hgs o (by simp) t;rw[z]at this;exact this hj
    have yl:∀{x:SV}(e:St)(w:World)(a:Act),s.get (.tm t)=.v x->(∀l∈[Loc.tm t],e l=s.get l)->dL E e w a->∃v,(∃ro own,Rel ro own x v)/\yielded q a.tmps j=match v with|.bool b=>some b|_=>none:=by
     intro x e w a F p u;have ay:e (.tm t)=.v x:=by rw[p _ (by simp),F]
     obtain⟨ro,own,A⟩:=u;have G:=A.tm t x ay;exact⟨_,⟨ro,own,G⟩,yV ⟨ro,own,A⟩ hj be ay _ ⟨ro,own,G,rfl⟩⟩
    split at h
    . rename_i F;have y1:∀(e:St)(w:World)(a:Act),(∀l∈[Loc.tm t],e l=s.get l)->dL E e w a->yielded q a.tmps j=some true:=by
       intro e w a p u;obtain⟨v,⟨_,_,G⟩,hy⟩:=yl e w a F p u;rw[hy,nX G]
      split at h
      . rename_i J;exact wanted (λe w a p u=>by simp[Region.wanted,z,y1 e w a p u,J]) h
      . rename_i J;exact y (λe w a p u=>by simp[Region.wanted,z,y1 e w a p u,J]) h
    . rename_i F;have y1:∀(e:St)(w:World)(a:Act),(∀l∈[Loc.tm t],e l=s.get l)->dL E e w a->yielded q a.tmps j=some false:=by
       intro e w a p u;obtain⟨v,⟨_,_,G⟩,hy⟩:=yl e w a F p u;rw[hy,qD G]
      split at h
      . rename_i J;exact y (λe w a p u=>by simp[Region.wanted,z,y1 e w a p u,J]) h
      . rename_i J;exact wanted (λe w a p u=>by simp[Region.wanted,z,y1 e w a p u,J]) h
    . rename_i F;refine y (λe w a p u=>?_) h;obtain⟨v,⟨_,_,G⟩,hy⟩:=yl e w a F p u;obtain⟨vs,hv,_⟩:=jt G;rw[hv]at hy;simp[Region.wanted,z,hy]
    . exact h.elim
theorem vC{P:Program}{ops:Array Oper}{Q:Exit->Act->World->Prop}:∀(b:List Step)(i:Nat)(s:St),(∀(m:Nat)(x:Step),b[m]?=some x->nV E P ops (i+m) (s.apply ((b.take m).flatMap (·.ws))) x.R x.ws)->
 (∀a w,dL E (s.apply (b.flatMap (·.ws))) w a->Q .normal a w)->∀a w,dL E s w a->wpOps P ops Q (List.range' i b.length) a w
 |[],i,s,_,hQ,a,w,hs=>hQ a w hs
 |x::r,i,s,hst,hQ,a,w,hs=>by
  rw[Jc,Z7,wpOps_cons];have d:=hst 0 x rfl;simp only[Z8,List.flatMap_nil,Jv]at d;refine d s (λ_ _=>rfl) w a Q _ hs λe h c=>?_
  refine vC r (i+1) (s.apply x.ws) (λm y j=>?_) (λa w k=>hQ a w (by rw[Xq,aM];exact k)) e h c;have:=hst (m+1) y (by simpa using j);rw[Qu,Xq,aM,show i+(m+1)=i+1+m from by omega]at this;exact this
end
end Go.Sx
namespace Go.Sx
open Go Go.RowKit
variable [bW]
def Loc.enc:Loc->Nat
 |.tm t=>3*t
 |.mt i=>3*i+1
 |.sg i q=>3*(64*i+q)+2
def bY:List Loc->Nat
 |[]=>0
 |l::r=>(1<<<l.enc)|||bY r
theorem nW:∀{L:List Loc}{l:Loc},l∈L->(bY L).testBit l.enc=true
 |x::r,l,h=>by
  simp only[bY,Qc,Qz];rcases Kd.1 h with rfl|h
  . left;simp[Ze,Nat.testBit_two_pow_self]
  . right;exact nW h
theorem xK{A B:List Loc}(h:bY A&&&bY B=0){l:Loc}(b:l∈A):l∉B:=λc=>by
 have:=JM (·.testBit l.enc) h;simp[Nat.testBit_and,nW b,nW c]at this
def uX(b:Array Oper):List (List Nat):=b.toList.map λo=>(o.after.toList.filter (Region.binds .any)).map (·.on)
def cl(b:List Nat):List Nat->Nat
 |[]=>0
 |d::r=>((1<<<d)|||b.getD d 0)|||cl b r
def closure:List (List Nat)->List Nat->List Nat
 |[],acc=>acc
 |b::r,acc=>closure r (acc++[cl acc b])
theorem F0{c:List Nat}{b:Nat}:∀{e:List Nat},(cl c e).testBit b=true->b∈e\/∃d∈e,(c.getD d 0).testBit b=true
 |d::r,h=>by
  simp only[cl,Qc,Qz]at h;rcases h with(h|h)|h
  . rw[Ze,Nat.testBit_two_pow]at h;left;simp at h;simp[h]
  . exact .inr ⟨d,by simp,h⟩
  . rcases F0 h with h|⟨i,j,k⟩
    . exact .inl (by simp[h])
    . exact .inr ⟨i,by simp[j],k⟩
 |[],h=>by simp[cl]at h
theorem rQ{dirs:List (List Nat)}{D:Nat->Prop}(y:∀(j:Nat)(e:List Nat),dirs[j]?=some e->D j->∀d∈e,D d):∀(rest pre:List (List Nat))(c:List Nat),dirs=pre++rest->c.length=pre.length->
 (∀(j m:Nat),c[j]?=some m->(∀e,dirs[j]?=some e->∀d∈e,D d)->∀b,m.testBit b=true->D b)->∀(j m:Nat),(closure rest c)[j]?=some m->(∀e,dirs[j]?=some e->∀d∈e,D d)->∀b,m.testBit b=true->D b
 |[],pre,c,_,_,h=>h
 |e::r,pre,c,hd,hl,h=>by
  refine rQ y r (pre++[e]) (c++[cl c e]) (by simp[hd]) (by simp[hl]) ?_;intro j m k i b z;rcases Kv j c.length with A|A
  . rw[Ka A]at k;exact h j m k i b z
  . have B:j=c.length:=by
     have:=(Jb.1 k).1;simp at this;omega
    subst B;simp at k;subst k;have o:dirs[c.length]?=some e:=by rw[hd,hl];simp
    rcases F0 z with q|⟨d,q,p⟩
    . exact i e o b q
    . have u:=i e o d q;cases w:c[d]? with
      |none=>rw[J0,w]at p;simp at p
      |some C=>
       rw[J0,w]at p;exact h d C w (λx E=>y d x E u) b p
def my(i b c:Nat):List (Nat×Nat×Nat)->Bool
 |[]=>true
 |(m,r,w)::rest=>(m.testBit i||(Nat.beq (c&&&(r|||w)) 0&&Nat.beq (w&&&b) 0))&&my i b c rest
def qj:Nat->List (Nat×Nat×Nat)->Bool
 |_,[]=>true
 |i,(_,r,w)::rest=>my i r w rest&&qj (i+1) rest
theorem wv{i c d:Nat}:∀{l:List (Nat×Nat×Nat)},my i c d l=true->∀x∈l,x.1.testBit i=true\/(d&&&(x.2.1|||x.2.2)=0/\x.2.2&&&c=0)
 |(m,r,w)::rest,h,x,b=>by
  simp only[my,J2,Qz]at h;rcases Kd.1 b with rfl|b
  . rcases h.1 with h|h
    . exact .inl h
    . exact .inr ⟨Jd h.1,Jd h.2⟩
  . exact wv h.2 x b
theorem B4:∀{l:List (Nat×Nat×Nat)}{k:Nat},qj k l=true->∀(i j:Nat)(x y:Nat×Nat×Nat),i<j->l[i]?=some x->l[j]?=some y->y.1.testBit (k+i)=true\/(x.2.2&&&(y.2.1|||y.2.2)=0/\y.2.2&&&x.2.1=0)
 |[],k,_,i,j,x,y,_,hx,_=>by simp at hx
 |(m,r,w)::rest,k,h,i,j,x,y,hij,hx,hy=>by
  simp only[qj,J2]at h;cases j with
  |zero=>omega
  |succ j=>
   simp at hy;cases i with
   |zero=>
    simp at hx;subst hx;exact wv h.1 y (Y1 hy)
   |succ i=>
    simp at hx;have:=B4 h.2 i j x y (by omega) hx hy
    rwa[show k+1+i=k+(i+1)from by omega]at this
def Gj:Nat->List (List Nat)->Bool
 |_,[]=>true
 |i,b::r=>b.all (λd=>Nat.blt d i)&&Gj (i+1) r
theorem zU:∀{l:List (List Nat)}{k:Nat},Gj k l=true->∀(i:Nat)(b:List Nat),l[i]?=some b->∀d∈b,d<k+i
 |b::r,k,h,i,ds',hi,d,hd=>by
  simp only[Gj,J2,Js]at h;cases i with
  |zero=>simp at hi;subst hi;simpa[Z1]using h.1 d hd
  |succ i=>
   simp at hi;have:=zU h.2 i ds' hi d hd;omega
def wH:List Nat->List Tr->List (Nat×Nat×Nat)
 |m::ms,t::ts=>(m,bY t.1,bY t.2)::wH ms ts
 |_,_=>[]
theorem zi:∀{b:List Nat}{c:List Tr}{i m:Nat}{t:Tr},b[i]?=some m->c[i]?=some t->(wH b c)[i]?=some (m,bY t.1,bY t.2)
 |_::_,_::_,0,m,t,h1,h2=>by simp at h1 h2;subst h1 h2;rfl
 |_::_,_::_,i+1,m,t,h1,h2=>by simp at h1 h2;simpa[wH]using zi h1 h2
def Ej(b:Array Oper)(c:List Tr):Bool:=
 Gj 0 (uX b)&&qj 0 (wH (closure (uX b) []) c)
theorem qd:∀(l:List (List Nat))(b:List Nat),(closure l b).length=b.length+l.length
 |[],b=>by simp[closure]
 |_::r,b=>by rw[closure,qd r];simp;omega
section
variable {E : Env}
def wG:List Step->Nat->(Nat->Bool)->St->St
 |[],_,_,s=>s
 |x::r,i,D,s=>wG r (i+1) D (if D i then s.apply x.ws else s)
theorem zE:∀(b:List (Loc×Item)){s c:St}{l:Loc},(s l=c l\/l∈b.map (·.1))->(s.apply b) l=(c.apply b) l
 |[],_,_,_,h=>h.resolve_right (by simp)
 |(d,x)::r,s,c,l,h=>by
  simp only[St.apply];apply zE r
  by_cases e:l=d
  . subst e;left;rw[St.cQ,St.cQ]
  . rw[St.bh _ _ e,St.bh _ _ e];rcases h with h|h
    . exact .inl h
    . right;simpa[e]using h
theorem rz:∀(b:List (Loc×Item)){s:St}{l:Loc},l∉b.map (·.1)->(s.apply b) l=s l
 |[],_,_,_=>rfl
 |(c,x)::r,s,l,h=>by
  simp at h;simp only[St.apply];rw[rz r (by simpa using h.2),St.bh _ _ h.1]
theorem Ep:∀(d:List Step){i:Nat}{D e:Nat->Bool}{s c:St}{l:Loc},s l=c l->(∀(m:Nat)(x:Step),d[m]?=some x->D (i+m)=e (i+m)\/l∉x.ws.map (·.1))->wG d i D s l=wG d i e c l
 |[],_,_,_,_,_,_,h,_=>h
 |x::r,i,D,e,s,c,l,h,j=>by
  simp only[wG];refine Ep r ?_ λm y k=>by
   have:=j (m+1) y (by simpa using k)
   rwa[show i+(m+1)=i+1+m from by omega]at this
  rcases j 0 x rfl with b|b
  . simp only[Jv]at b;rw[b];split
    . exact zE _ (.inl h)
    . exact h
  . have o:=rz x.ws (s:=s) b;have p:=rz x.ws (s:=c) b;split<;>split<;>simp only[o,p,h]
theorem lN:∀(b:List Step)(i:Nat)(s:St),wG b i (λ_=>false) s=s
 |[],_,_=>rfl
 |x::r,i,s=>by simp only[wG];exact lN r (i+1) s
theorem Gk:∀(j:List Step){i:Nat}{D:Nat->Bool}{s:St}{m:Nat}{x:Step}{l:Loc},j[m]?=some x->D (i+m)=true->l∈x.ws.map (·.1)->
 (∀(c:Nat)(e:Step),m<c->j[c]?=some e->D (i+c)=true->l∉e.ws.map (·.1))->∀b:St,wG j i D s l=(b.apply x.ws) l
 |x::r,i,D,s,0,y,l,d,hD,hl,h,b=>by
  simp at d;subst d;simp only[Jv]at hD;simp only[wG,hD,JE];have:wG r (i+1) D (s.apply x.ws) l=wG r (i+1) (λ_=>false) (s.apply x.ws) l:=Ep r rfl λm y d=>by
   cases k:D (i+1+m)with
   |false=>exact .inl rfl
   |true=>exact .inr (h (m+1) y (by omega) (by simpa using d) (by rw[show i+(m+1)=i+1+m from by omega];exact k))
  rw[this,lN];exact zE _ (.inr hl)
 |x::r,i,D,s,m+1,y,l,d,hD,hl,h,b=>by
  simp only[wG];exact Gk r (i:=i+1) (by simpa using d) (by rw[show i+1+m=i+(m+1)from by omega];exact hD) hl (λc e p o k=>h (c+1) e (by omega) (by simpa using o) (by rw[show i+(c+1)=i+1+c from by omega];exact k)) b
theorem yt:∀(b:List Step)(i k:Nat)(s:St),wG b i (λm=>decide (m<i+k)) s=s.apply ((b.take k).flatMap (·.ws))
 |[],i,k,s=>by simp[wG,St.apply]
 |x::r,i,0,s=>by
  have:(λm=>decide (m<i+0)) i=false:=by simp
  simp only[wG,this];have c:∀l,wG r (i+1) (λm=>decide (m<i+0)) s l=wG r (i+1) (λ_=>false) s l:=λl=>Ep r rfl λm y _=>.inl (by simp;omega)
  funext l
  simp only[Jr,JF,c l,lN];rfl
 |x::r,i,k+1,s=>by
  have:(λm=>decide (m<i+(k+1))) i=true:=by simp
  simp only[wG,this,JE];rw[Qu,Xq,aM,<-yt r (i+1) k]
  congr 1
  funext m;congr 1;simp;omega
def No:List Bool->Nat
 |[]=>0
 |b::r=>(if b then 0 else 1)+No r
theorem IN:∀(l:List Bool)(i:Nat),l[i]?=some false->No (l.set i true)+1=No l
 |b::r,0,h=>by simp at h;subst h;simp[No];omega
 |b::r,i+1,h=>by
  have:=IN r i (by simpa using h);simp only[List.set_cons_succ,No];omega
theorem FX:∀(l:List Bool),No l=0->∀(i:Nat),l[i]?≠some false
 |b::r,h,0=>by simp[No]at h⊢;exact h.1
 |b::r,h,i+1=>by simp only[No]at h;simpa using FX r (by omega) i
 |[],_,_=>by simp
theorem mq:∀n,No (List.replicate n false)=n
 |0=>rfl
 |n+1=>by rw[Qy,No,mq n];simp;omega
theorem BH{P:Program}{c:Array Oper}{Q:Exit->Act->World->Prop}{st:List Step}{s:St}(aw:st.length=c.size)
 (bd:∀(m:Nat)(x:Step),st[m]?=some x->nV E P c m (s.apply ((st.take m).flatMap (·.ws))) x.R x.ws) (ac:Ej c (st.map λx=>(x.R,x.ws.map (·.1)))=true)
 (hQ:∀a w,dL E (s.apply (st.flatMap (·.ws))) w a->Q .normal a w):
 ∀(k:Nat)(b:Array Bool),b.size=c.size->No b.toList<=k->(∀(j:Nat)(o:Oper),c[j]?=some o->b.getD j false=true->∀e∈o.after,Region.binds .any e=true->b.getD e.on false=true)->
 ∀a w,dL E (wG st 0 (λm=>b.getD m false) s) w a->wpAny P .any c Q k b a w:=by
 simp only[Ej,J2]at ac;have H:∀(j:Nat)(o:Oper),c[j]?=some o->(uX c)[j]?=some ((o.after.toList.filter (Region.binds .any)).map (·.on)):=λj o F=>by
  simp only[uX,J5,Xp,F,K4]
 have J:(uX c).length=c.size:=by simp[uX]
 have ax:∀(b:Array Bool),(∀(j:Nat)(o:Oper),c[j]?=some o->b.getD j false=true->∀e∈o.after,Region.binds .any e=true->b.getD e.on false=true)->
  ∀(i j:Nat)(x y:Step),i<j->st[i]?=some x->st[j]?=some y->((∀o,c[j]?=some o->∀e∈o.after,Region.binds .any e=true->b.getD e.on false=true)->b.getD i false=true)\/
   ((∀l∈x.ws.map (·.1),l∉y.R/\l∉y.ws.map (·.1))/\∀l∈y.ws.map (·.1),l∉x.R):=by
  intro b z i j x y be N A;have bi:j<(uX c).length:=by rw[J,<-aw];exact(Jb.1 A).1
  have G:i<(uX c).length:=by omega
  have bh:(closure (uX c) []).length=(uX c).length:=by simp[qd]
  obtain⟨mi,bf⟩:∃m,(closure (uX c) [])[i]?=some m:=⟨_,J4 (by omega)⟩;obtain⟨mj,ay⟩:∃m,(closure (uX c) [])[j]?=some m:=⟨_,J4 (by omega)⟩;have:=B4 ac.2 i j _ _ be (zi bf (by rw[J5,N];rfl)) (zi ay (by rw[J5,A];rfl));rcases this with h|⟨h1,h2⟩
  . left;intro L;simp only[Jg]at h;refine rQ (dirs:=uX c) (D:=λm=>b.getD m false=true) ?_ (uX c) [] [] rfl rfl (by simp) j mj ay ?_ i h
    . intro j' ds p hD d q;obtain⟨o,F⟩:∃o,c[j']?=some o:=⟨_,Xr (by have:=(Jb.1 p).1;omega)⟩;rw[H j' o F]at p;simp at p;subst p;simp at q;obtain⟨e,⟨ad,al⟩,rfl⟩:=q;exact z j' o F hD e ad al
    . intro ds p d q;obtain⟨o,F⟩:∃o,c[j]?=some o:=⟨_,Xr (by omega)⟩;rw[H j o F]at p;simp at p;subst p;simp at q;obtain⟨e,⟨ad,al⟩,rfl⟩:=q;exact L o F e ad al
  . right;have e:bY (x.ws.map (·.1))&&&bY y.R=0/\bY (x.ws.map (·.1))&&&bY (y.ws.map (·.1))=0:=by
     simp only[Nat.and_or_distrib_left]at h1;exact Nat.or_eq_zero_iff.1 h1
    exact⟨λl B=>⟨xK e.1 B,xK e.2 B⟩,λl B=>xK h2 B⟩
 have az:∀(b:Array Bool),b.size=c.size->Region.ready .any c b=[]->∀i,i<c.size->b.getD i false=true:=by
  intro b r L i
  induction i using Nat.strongRecOn with
  |_ i ih=>
   intro hi;cases q:b.getD i false with
   |true=>rfl
   |false=>
    exfalso;have M:i∈Region.ready .any c b:=by
     rw[mem_ready];have G:i<b.size:=by omega
     refine⟨?_,_,Xr hi,λe O X=>?_⟩
     . simpa[G]using q
     . have:=zU ac.1 i _ (H i _ (Xr hi)) e.on (by
        simp only[Kh,List.mem_filter];exact⟨e,⟨by simpa using O,X⟩,rfl⟩)
       exact ih e.on (by omega) (by omega)
    rw[L]at M;cases M
 have K:∀(b:Array Bool),b.size=c.size->Region.ready .any c b=[]->∀a w,dL E (wG st 0 (λm=>b.getD m false) s) w a->Q .normal a w:=by
  intro b r L a w hs;refine hQ a w ?_;have:wG st 0 (λm=>b.getD m false) s=s.apply (st.flatMap (·.ws)):=by
   have e:=yt st 0 st.length s;rw[List.take_length]at e;rw[<-e]
   funext l
   refine Ep st rfl λm x N=>.inl ?_
   have M:=(Jb.1 N).1;have:=az b r L m (by omega);simp only[Jg,this,M,decide_true]
  rwa[this]at hs
 intro k
 induction k with
 |zero=>
  intro b r hu z a w hs;have L:Region.ready .any c b=[]:=by
   rw[List.eq_nil_iff_forall_not_mem];intro j hj;obtain⟨h0,o,F,_⟩:=mem_ready.1 hj;have hj:j<b.size:=by rw[r];exact(K3.1 F).1
   refine FX b.toList (by omega) j ?_;simp[hj]at h0⊢;exact h0
  exact⟨L,K b r L a w hs⟩
 |succ k ih=>
  intro b r hu z a w hs;refine⟨λL=>K b r L a w hs,λi hi=>?_⟩;obtain⟨h0,o,F,Z⟩:=mem_ready.1 hi;have bp:i<c.size:=(K3.1 F).1;have G:i<b.size:=by omega
  obtain⟨x,N⟩:∃x,st[i]?=some x:=⟨_,J4 (by omega)⟩;have aD:b.getD i false=false:=by simp[G]at h0⊢;exact h0
  have before:∀(m:Nat)(y:Step),m<i->st[m]?=some y->b.getD m false=true\/((∀l∈y.ws.map (·.1),l∉x.R/\l∉x.ws.map (·.1))/\∀l∈x.ws.map (·.1),l∉y.R):=λm y M A=>by
   rcases ax b z m i y x M A N with h|h
   . exact .inl (h λo' u e O X=>by rw[F]at u;cases u;exact Z e O X)
   . exact .inr h
  have later:∀(m:Nat)(y:Step),i<m->st[m]?=some y->b.getD m false=true->((∀l∈x.ws.map (·.1),l∉y.R/\l∉y.ws.map (·.1))/\∀l∈y.ws.map (·.1),l∉x.R):=λm y M A B=>by
   rcases ax b z i m x y M N A with h|h
   . have:=h λo' u e O X=>z m o' u B e O X
     rw[aD]at this;cases this
   . exact h
  have aq:∀l∈x.R,wG st 0 (λm=>b.getD m false) s l=(s.apply ((st.take i).flatMap (·.ws))) l:=λl B=>by
   rw[<-yt st 0 i s];refine Ep st rfl λm y A=>?_
   simp only[Jg];rcases Nat.lt_trichotomy m i with h|h|h
   . rcases before m y h A with h1|h1
     . left;simp[h1,h]
     . right;intro hw;exact(h1.1 l hw).1 B
   . subst h;left;simp[aD]
   . cases q:b.getD m false with
     |false=>left;simp;omega
     |true=>right;intro hw;exact(later m y h A q).2 l hw B
  have C:∀m,(b.setIfInBounds i true).getD m false=if m=i then true else b.getD m false:=λm=>by
   by_cases e:m=i
   . subst e;simp[G]
   . rw[getD_set_ne false (Yv e)];simp[e]
  have grow:(wG st 0 (λm=>b.getD m false) s).apply x.ws=wG st 0 (λm=>(b.setIfInBounds i true).getD m false) s:=by
   funext l
   by_cases B:l∈x.ws.map (·.1)
   . rw[Gk st (m:=i) N (by simp only[Jg,C];simp) B (λm' y M A q=>by
      simp only[Jg,C]at q;rw[JA (by omega)]at q;exact λhw=>((later m' y M A q).1 l B).2 hw)]
   . rw[rz _ B];refine Ep st rfl λm y A=>?_
     simp only[Jg,C]
     by_cases e:m=i
     . subst e;rw[N]at A;cases A;exact .inr B
     . left;simp[e]
  refine bd i x N _ aq w a Q _ hs λa' w' bb=>?_
  rw[grow]at bb;refine ih _ (by simp[r]) ?_ ?_ a' w' bb
  . have:=IN b.toList i (by simp[G]at h0⊢;exact h0);rw[Array.toList_setIfInBounds];omega
  . intro j o' u q e O X;rw[C]at q⊢;split
    . rfl
    . by_cases ej:j=i
      . subst ej;rw[F]at u;cases u;exact Z e O X
      . rw[JA ej]at q;exact z j o' u q e O X
end
end Go.Sx
