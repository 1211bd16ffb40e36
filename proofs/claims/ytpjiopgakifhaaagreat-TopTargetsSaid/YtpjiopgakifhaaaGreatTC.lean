import Derived.Test.YtpjiopgakifhaaaGreatTB
import Derived.Lib.ConvBytes
import Derived.Laws.BytesString
import Derived.Laws.Append
set_option linter.unusedSectionVars false
set_option linter.unusedSimpArgs false
set_option linter.unusedVariables false
set_option maxRecDepth 100000
namespace Go.Sx
open Go Go.RowKit
variable [bW]
section
variable {E : Env} {P : Program} {ro : RO} {own : Own} {s : St} {w : World} {a : Act}
theorem iq {o o':Own} {x:SV} {v:Value} (h:Rel ro o x v) (hc:fM x=true):Rel ro o' x v:=by
 cases x<;>simp [fM]at hc
 . rw [jJ h];exact .bool _ _
 . rw [nX h];exact .tt _
 . rw [qD h];exact .ff _
 . rw [aK h];exact .int _ _ _
 . rw [dR h];exact .str _ _
 . rw [gh h];exact .aq _
 . rcases dE h with⟨hl,A,cap,hv⟩|⟨b,k0,cap,vs,hv,hcap,hl,hm,hh⟩
   . rw [hv];exact .fe _ _ _ _ _ _ hl
   . rw [hv];exact .aI _ _ _ _ _ _ _ vs hcap hl hm hh
 . cases h;exact .DG _ _ ‹_›
 . cases h;exact .emp _ _
 . cases h;exact .km _
 . cases h;exact .lG _
 . cases h;exact .pn _
 . cases h;exact .sy _ _ _ _ _ _ ‹_› ‹_› ‹_›
 . cases h;exact .tg _ _ _ ‹_›
theorem EF {x:SV} (h:fM x=true):ib x=true:=by cases x<;>simp [fM,ib]at h⊢
theorem gY : ∀{l:List ar},gm l-> ∀k sv,flat l k=some sv->fM sv=true
 |[],_,_,_,hk=>by simp [flat]at hk
 | .s v::r,h,k,sv,hk=>by
  cases k with
  |zero=>rw [cC]at hk;simp at hk;subst hk;exact(aL.1 h).1
  |succ k=>rw [cB]at hk;exact gY (aL.1 h).2 k sv hk
 | .a n es f::r,h,k,sv,hk=>by
  by_cases hlt:k<n*es
  . rw [cy hlt]at hk;have hes:0<es:=by
     rcases Jw es with h0|h0
     . subst h0;simp at hlt
     . exact h0
    have:=h.1 (k/es) (by rw [K9 hes];exact hlt);simp only [yr,J2,Js]at this;exact this.2 _ (Y1 hk)
  . rw [gZ hlt]at hk;exact gY h.2 _ sv hk
theorem oC {o o':Own} {x:SV} {v:Value} (h:Rel ro o x v) (hc:gX x):Rel ro o' x v:=by
 cases x
 case agg l=>
  obtain⟨cs,hv,hs,hh⟩:=cU h;rw [hv];exact .agg _ _ _ hs fun k sv hk=>iq (hh k sv hk) (gY hc k sv hk)
 all_goals (simp only [gX,aL]at hc;exact iq h hc.1)
theorem bA.freeze (h:bA E ro own s w a) {id:Nat} {m:lZ} {n es:Nat} {f:Nat->List SV} (hrow:m.row=true) (hm:s (.mt id)= .m (some m)) (hseg:s.az id m.ns=[.a n es f]) (hcl: ∀i,i<n->yr es (f i)=true):
 ∃ro',ga ro ro'/\bA E ro' own (s.put (.mt id) (.m (some {m with gN:=true}))) w a:=by
 by_cases hz:m.gN=true
 . refine⟨ro, .refl _,?_⟩;have:s.put (.mt id) (.m (some {m with gN:=true}))=s:=by
    funext l
    simp only [St.put];split
    . rename_i e;rw [e,hm];cases m;simp only at hz;subst hz;rfl
    . rfl
   rw [this];exact h
 have hz:m.gN=false:=by simpa using hz
 have he:=h.gK id m hm;obtain⟨x0,hx0⟩:=he.there;have hmt: ∀i,i≠id->(s.put (.mt id) (.m (some {m with gN:=true}))) (.mt i)=s (.mt i):=fun i hi=>St.bh _ _ (by simpa using hi)
 have hmn:(s.put (.mt id) (.m (some {m with gN:=true}))) (.mt id)= .m (some {m with gN:=true}):=St.cQ _ _ _;have hsg: ∀i k,(s.put (.mt id) (.m (some {m with gN:=true}))).az i k=s.az i k:=fun i k=>St.dc fun q _=>St.bh _ _ (by simp)
 have hheld: ∀b,x0=some b-> ∀k,k<aa (s.az id m.ns)->w.frozen? ⟨b,k,none⟩=false:=by
  intro b hb k hk;obtain⟨cs,e,lo,hi,hh,hfz,_⟩:=(he.live b (by rw [hx0,hb]) hz).body;rw [World.frozen?];simp only [hh];simp;omega
 obtain⟨ro',hle,hat,hnot⟩: ∃ro':RO,ga ro ro'/\(∀b,x0=some b-> ∀k,k<aa (s.az id m.ns)-> ∃v,ro' b k=some v/\eb w b k v/\ ∀sv,flat (s.az id m.ns) k=some sv->Rel ro own sv v)/\
  ((∀b o v,ro' b o=some v->ro b o=some v\/(x0=some b/\eb w b o v))/\(∀b o,x0≠some b->ro' b o=ro b o)):=by
  cases x0 with
  |none=>exact⟨ro, .refl _,by simp,fun b o v hv=> .inl hv,fun _ _ _=>rfl⟩
  |some b0=>
   have hl:=he.live b0 hx0 hz;refine⟨fun b o=>if b=b0 then(if o<aa (s.az id m.ns)then w.cell? ⟨b0,o,none⟩else none)else ro b o,fun b o v hv=> ?_,fun b hb k hk=> ?_,fun b o v hv=> ?_,fun b o hb=> ?_⟩
   . have:b≠b0:=by rintro rfl;rw [hl.apart o]at hv;cases hv
     simp only [this,if_false];exact hv
   . simp at hb;subst hb;obtain⟨v,hv,hr⟩:=h.DR hm hx0 hk;have hv':=hheld b0 rfl k hk;exact⟨v,by simp [hk,hv],⟨hv,hv'⟩,hr⟩
   . simp only at hv;split at hv
     . rename_i hb;subst hb;split at hv
       . rename_i ho;exact .inr ⟨rfl,hv,hheld b rfl o ho⟩
       . cases hv
     . exact .inl hv
   . have:b≠b0:=fun e=>hb (by rw [e])
     simp [this]
 refine⟨ro',hle,?_⟩;refine {below:=h.below,base:=h.base,defs:=h.defs,size:=h.size,tm:= ?_,cJ:= ?_,ee:= ?_,gK:= ?_,fr:= ?_,mY:= ?_,inj:= ?_,kk:=E.mono _ _ _ _ (.refl _) hle h.kk,mp:=h.mp' hle (.refl _) (fun i m' h1 h2=>by
  by_cases hi:i=id
  . subst hi;rw [hmn]at h1;simp only [Item.m.injEq,J3]at h1;subst h1;simp [cz,hrow]at h2
  . rw [hmt i hi]at h1;exact⟨h1,fun n' e' f' h3=>by rw [St.bh _ _ (by simp)]at h3;exact h3⟩) (fun _ _ _ _ h5=>h5)}
 . intro t sv ht;rw [St.bh _ _ (by simp)]at ht;exact(h.tm t sv ht).mono hle (.refl _)
 . intro b o v hv;rcases hnot.1 b o v hv with h1|⟨_,h1⟩
   . exact h.cJ b o v h1
   . exact h1
 . intro b o hb;rw [hnot.2 b o ?_]
   . exact h.ee b o hb
   . intro e1;have:=(he.live b (by rw [hx0,e1]) hz).low;omega
 . intro i m' hm';rw [hsg]
   by_cases hi:i=id
   . subst hi;rw [hmn]at hm';simp only [Item.m.injEq,J3]at hm';subst hm';refine {st:=he.st,es:=he.es,row:=he.row,plain:=he.plain,there:=he.there,nil:=he.nil,live:=(fun b _ hz'=>by cases hz'),dn:= ?_};intro b hb _ k hk;simp only at hb;rw [hx0]at hb;simp at hb;obtain⟨v,hv,_,hr⟩:=hat b hb k hk;refine⟨v,hv,fun sv hs=> ?_⟩;have hs2:flat [.a n es f] k=some sv:=by rw [<-hseg];exact hs
     have:=gY (l:=[.a n es f]) ⟨hcl,trivial⟩ k sv hs2;exact(iq (hr sv hs) this).mono hle (.refl _)
   . rw [hmt i hi]at hm';have he':=h.gK i m' hm';refine {st:=he'.st,es:=he'.es,row:=he'.row,plain:=he'.plain,there:=he'.there,nil:=he'.nil,live:=fun b hb hz'=> ?_,dn:=fun b hb hz' k hk=> ?_}
     . have hl:=he'.live b hb hz';refine⟨hl.low,fun o=> ?_,?_⟩
       . rw [hnot.2 b o ?_]
         . exact hl.apart o
         . intro e1;exact hi (h.inj i id m' m b hm' hm hz' hz hb (by rw [hx0,e1]))
       . obtain⟨cs,e,lo,hi',r0,r1,r2,r3,r4,r5,r6⟩:=hl.body;exact⟨cs,e,lo,hi',r0,r1,r2,r3,fun k sv hk=>(r4 k sv hk).mono hle (.refl _),r5,r6⟩
     . obtain⟨v,hv,hr⟩:=he'.dn b hb hz' k hk;exact⟨v,hle _ _ _ hv,fun sv hs=>(hr sv hs).mono hle (.refl _)⟩
 . intro i hi
   by_cases e1:i=id
   . subst e1;rw [hmn]at hi;cases hi
   . rw [hmt i e1]at hi;exact h.fr i hi
 . intro i m' hi
   by_cases e1:i=id
   . subst e1;rw [hmn]at hi;simp only [Item.m.injEq,J3]at hi;subst hi;exact h.mY i m hm
   . rw [hmt i e1]at hi;exact h.mY i m' hi
 . intro i i' m1 m2 b h1 h2 z1 z2 b1 b2;have ne: ∀j mj,(s.put (.mt id) (.m (some {m with gN:=true}))) (.mt j)= .m (some mj)->mj.gN=false->j≠id:=by
    rintro j mj hj hzj rfl;rw [hmn]at hj;simp only [Item.m.injEq,J3]at hj;subst hj;cases hzj
   rw [hmt i (ne i m1 h1 z1)]at h1;rw [hmt i' (ne i' m2 h2 z2)]at h2;exact h.inj i i' m1 m2 b h1 h2 z1 z2 b1 b2
theorem bA.called (h:bA E ro own s w a) {w':World} {R':RO} (hb:Below w.heap.size w w') (hR:ga ro R') (hok: ∀b o v,R' b o=some v->eb w' b o v) (hold: ∀b o,b<w.heap.size->R' b o=ro b o):bA E R' own s w' a:=by
 refine {below:=h.below.trans (hb.mono h.base),base:=Jn h.base hb.size,defs:=h.defs,size:=h.size,tm:=fun t sv ht=>(h.tm t sv ht).mono hR (.refl _),cJ:=hok,ee:=fun b o hb'=>by rw [hold b o (by have:=h.base;omega)];exact h.ee b o hb',gK:= ?_,fr:=h.fr,mY:=h.mY,inj:=h.inj,kk:=E.mono _ _ _ _ (.refl _) hR h.kk,mp:=h.mp' hR (.refl _) (fun _ _ h1 _=>⟨h1,fun _ _ _ h3=>h3⟩) (fun b _ _ _ h5=>by rw [hb.block b (K3.1 h5).1];exact h5)}
 intro i m hm;have he:=h.gK i m hm;refine {st:=he.st,es:=he.es,row:=he.row,plain:=he.plain,there:=he.there,nil:=he.nil,live:=fun b hb' hz=> ?_,dn:=fun b hb' hz k hk=> ?_}
 . have hl:=he.live b hb' hz;obtain⟨cs,e,lo,hi',r0,r1,r2,r3,r4,r5,r6⟩:=hl.body;have hlt:=(K3.1 r0).1;exact⟨hl.low,fun o=>by rw [hold b o hlt];exact hl.apart o,cs,e,lo,hi',by rw [hb.block b hlt];exact r0,r1,r2,r3,fun k sv hk=>(r4 k sv hk).mono hR (.refl _),r5,r6⟩
 . obtain⟨v,hv,hr⟩:=he.dn b hb' hz k hk;exact⟨v,hR _ _ _ hv,fun sv hs=>(hr sv hs).mono hR (.refl _)⟩
theorem bA.adopt (h:bA E ro own s w a) {nid:Nat} (hf:s (.mt nid)= .m none) {es n cap:Nat} {f:Nat->List SV} {e:TypeId} {ob:Option Nat} (hnone:ob=none->n=0)
 (hsome: ∀b,ob=some b-> ∃cs,E.B<=b/\(∀o,ro b o=none)/\w.heap[b]?=some (.cells cs e (0,0))/\cap<=maxLen/\cs.size=cap*es/\n<=cap/\ ∀k sv,flat [.a n es f] k=some sv->Rel ro own sv (cs.getD k undef))
 (hfree: ∀id m b,s (.mt id)= .m (some m)->m.gN=false->own.env id m.aD=some (some b)->ob≠some b):
 ∃own',own.le own'/\own'.env nid 0=some ob/\own'.cap nid 0=cap/\own'.st nid 0=0/\own'.es nid 0=es/\bA E ro own' (s.apply (lO nid true (some e) es [.a n es f])) w a:=by
 have ens:lO nid true (some e) es [.a n es f]=(.mt nid, .m (some ⟨0,false,true,some e,1,es,[]⟩))::bs nid 0 [.a n es f]:=rfl;rw [ens]
 let own':Own:={env:=fun id aD=>if id=nid then(if aD=0 then some ob else none)else own.env id aD,cap:=fun id aD=>if id=nid then cap else own.cap id aD,st:=fun id q=>if id=nid then aa ([ar.a n es f].take q)else own.st id q,es:=fun id q=>if id=nid then(match [ar.a n es f][q]? with|some x=>x.es|none=>0)else own.es id q}
 have hne: ∀id aD x,own.env id aD=some x->id≠nid:=by
  rintro id aD x hx rfl;rw [h.fr id hf aD]at hx;cases hx
 have hle:own.le own':=by
  refine⟨fun id aD x hx=> ?_,fun id aD x hx=> ?_,fun id aD x q hx=> ?_,fun id aD x q hx=> ?_⟩<;>simp [own',hne id aD x hx,hx]
 have hsegs: ∀id k,id≠nid->(s.apply ((.mt nid, .m (some ⟨0,false,true,some e,1,es,[]⟩))::bs nid 0 [.a n es f])).az id k=s.az id k:=by
  intro id k hid;refine St.dc fun q _=> ?_
  simp only [St.apply];rw [bc _ _ _ _ _ (by intro q';simp [hid]),St.bh _ _ (by simp)]
 have hmt: ∀id,id≠nid->(s.apply ((.mt nid, .m (some ⟨0,false,true,some e,1,es,[]⟩))::bs nid 0 [.a n es f])) (.mt id)=s (.mt id):=by
  intro id hid;simp only [St.apply];rw [bc _ _ _ _ _ (by simp),St.bh _ _ (by simpa using hid)]
 have hmn:(s.apply ((.mt nid, .m (some ⟨0,false,true,some e,1,es,[]⟩))::bs nid 0 [.a n es f])) (.mt nid)= .m (some ⟨0,false,true,some e,1,es,[]⟩):=by
  simp only [St.apply];rw [bc _ _ _ _ _ (by simp),St.cQ]
 have hsn:(s.apply ((.mt nid, .m (some ⟨0,false,true,some e,1,es,[]⟩))::bs nid 0 [.a n es f])).az nid 1=[.a n es f]:=by
  simp only [St.apply];exact qp _ _ _
 refine⟨own',hle,by simp [own'],by simp [own'],by simp [own',aa],by simp [own',ar.es],?_⟩;refine {below:=h.below,base:=h.base,defs:=h.defs,size:=h.size,tm:= ?_,cJ:=h.cJ,ee:=h.ee,gK:= ?_,fr:= ?_,mY:= ?_,inj:= ?_,kk:=E.mono _ _ _ _ hle (.refl _) h.kk,mp:=h.mp' (.refl _) hle (fun id m h1 h2=>by
  by_cases hid:id=nid
  . subst hid;rw [hmn]at h1;simp only [Item.m.injEq,J3]at h1;subst h1;simp [cz]at h2
  . rw [hmt id hid]at h1;refine⟨h1,fun n e f h3=> ?_⟩;simp only [St.apply]at h3;rw [bc _ _ _ _ _ (by intro q';simp [hid]),St.bh _ _ (by simp)]at h3;exact h3) (fun b o _ _ h5=>h5)}
 . intro t sv ht;have e1:(s.apply ((.mt nid, .m (some ⟨0,false,true,some e,1,es,[]⟩))::bs nid 0 [.a n es f])) (.tm t)=s (.tm t):=by
    simp only [St.apply];rw [bc _ _ _ _ _ (by simp),St.bh _ _ (by simp)]
   rw [e1]at ht;exact(h.tm t sv ht).own hle
 . intro id m hm
   by_cases hid:id=nid
   . subst hid;rw [hmn]at hm;simp only [Item.m.injEq,J3]at hm;subst hm;rw [hsn];refine {st:=fun q _=>by simp [own'],es:=fun q x hx=>by simp [own',hx],row:=fun _=>⟨n,f,rfl,fun b hb=> ?_⟩,plain:=(fun hr=>by cases hr),there:=⟨ob,by simp [own']⟩,nil:=fun hn=>⟨rfl,f,?_⟩,live:=fun b hb _=> ?_,dn:=fun b _ hz=>by cases hz}
     . simp only [own',if_true,J3]at hb;obtain⟨cs,_,_,_,_,_,h6,_⟩:=hsome b hb;simpa [own']using h6
     . simp only [own',if_true,J3]at hn;rw [hnone hn]
     . simp only [own',if_true,J3]at hb;obtain⟨cs,c1,c2,c3,c4,c5,c6,c7⟩:=hsome b hb;refine⟨c1,c2,cs,e,0,0,c3, .inl (J1 _),fun t ht=> ?_,?_,fun k sv hk=>(c7 k sv hk).own hle,(fun hr=>by cases hr),fun _=> ?_⟩
       . simp only [J3]at ht;exact⟨rfl,rfl,ht,by simpa [own']using c4⟩
       . simp only [aa,ar.size,Jv];rw [c5];exact Jl _ c6
       . rw [c5];simp [own',ar.es]
   . rw [hmt id hid]at hm;rw [hsegs id m.ns hid];have he:=h.gK id m hm;obtain⟨x0,hx0⟩:=he.there;have e0: ∀aD,own'.env id aD=own.env id aD:=fun aD=>by simp [own',hid]
     have e1: ∀q,own'.st id q=own.st id q:=fun q=>by simp [own',hid]
     have e2: ∀q,own'.es id q=own.es id q:=fun q=>by simp [own',hid]
     have e3: ∀aD,own'.cap id aD=own.cap id aD:=fun aD=>by simp [own',hid]
     refine {st:=fun q hq=>by rw [e1];exact he.st q hq,es:=fun q x hx=>by rw [e2];exact he.es q x hx,row:=fun hr=> ?_,plain:=he.plain,there:=⟨x0,by rw [e0];exact hx0⟩,nil:=fun hn=>he.nil (by rw [<-e0];exact hn),live:=fun b hb hz=> ?_,dn:=fun b hb hz=>he.dn b (by rw [<-e0];exact hb) hz}
     . obtain⟨n,f,hl,hn⟩:=he.row hr;exact⟨n,f,hl,fun b hb=>by rw [e3];exact hn b (by rw [<-e0];exact hb)⟩
     . rw [e0]at hb;have hl:=he.live b hb hz;obtain⟨cs',e',lo',hi',hh,r1,r2,r3,r4,r5,r6⟩:=hl.body;exact⟨hl.low,hl.apart,cs',e',lo',hi',hh,r1,(fun t ht=>by rw [e3];exact r2 t ht),r3,fun k sv hk=>(r4 k sv hk).own hle,r5,fun hr=>by rw [e3,e2];exact r6 hr⟩
 . intro id hm aD
   by_cases hid:id=nid
   . subst hid;rw [hmn]at hm;cases hm
   . rw [hmt id hid]at hm;simp only [own',hid,if_false];exact h.fr id hm aD
 . intro id m hm aD hv
   by_cases hid:id=nid
   . subst hid;rw [hmn]at hm;simp only [Item.m.injEq,J3]at hm;subst hm;simp only at hv;simp [own',show aD≠0 by omega]
   . rw [hmt id hid]at hm;simp only [own',hid,if_false];exact h.mY id m hm aD hv
 . intro id id' m m' b hm hm' hz hz' hb hb'
   by_cases hid:id=nid
   . by_cases hid':id'=nid
     . rw [hid,hid']
     . rw [hmt id' hid']at hm';subst hid;rw [hmn]at hm;simp only [Item.m.injEq,J3]at hm;subst hm;simp only [own',if_true,J3]at hb;simp only [own',hid',if_false]at hb';exact absurd hb (hfree id' m' b hm' hz' hb')
   . rw [hmt id hid]at hm;simp only [own',hid,if_false]at hb
     by_cases hid':id'=nid
     . subst hid';rw [hmn]at hm';simp only [Item.m.injEq,J3]at hm';subst hm';simp only [own',if_true,J3]at hb';exact absurd hb' (hfree id m b hm hz hb)
     . rw [hmt id' hid']at hm';simp only [own',hid',if_false]at hb';exact h.inj id id' m m' b hm hm' hz hz' hb hb'
def zq (s s1:St):Prop:=(∀l,(∀id,l≠ .mt id)->s1 l=s l)/\ ∀id,s1 (.mt id)=s (.mt id)\/ ∃m,s (.mt id)= .m (some m)/\s1 (.mt id)= .m (some {m with gN:=true})
theorem zq.az {s s1:St} (h:zq s s1) (id n:Nat):s1.az id n=s.az id n:=St.dc fun q _=>h.1 _ (by simp)
theorem mb : ∀{xs:List SV} {vals:List Value} {s1:St} {ro1:RO} {k:List SV->List (Loc×Item)->Tx} {ws},zq s s1->bA E ro1 own s1 w a->aQ ro1 own xs vals->(iL xs k).ok s ws->
 ∃xs' ws' ro2,(k xs' ws').ok s ws/\ga ro1 ro2/\zq s (s1.apply ws')/\bA E ro2 own (s1.apply ws') w a/\aQ ro2 Own.empty xs' vals
 |[],[],s1,ro1,k,ws,hf,h,_,hk=>⟨[],[],ro1,hk, .refl _,hf,h,trivial⟩
 |x::r,v::vr,s1,ro1,k,ws,hf,h,hr,hk=>by
  have plain:gX x->(iL r fun r' ws'=>k (x::r') ([]++ws')).ok s ws-> ∃xs' ws' ro2,(k xs' ws').ok s ws/\ga ro1 ro2/\zq s (s1.apply ws')/\bA E ro2 own (s1.apply ws') w a/\aQ ro2 Own.empty xs' (v::vr):=by
   intro hc hk;obtain⟨xs',ws',ro2,h1,h2,hff,h3,h4⟩:=mb hf h hr.2 hk;exact⟨x::xs',[]++ws',ro2,h1,h2,hff,h3,(oC hr.1 hc).mono h2 (.refl _),h4⟩
  cases x
  case sl id aD off len=>
   simp only [iL,qh]at hk;obtain⟨m,hm,hk⟩:=fG hk;split at hk
   case isFalse=>exact hk.elim
   rename_i hc;obtain⟨hrow,hver⟩:=hc;obtain⟨y,hy,hk⟩:=lf hk;split at hk
   case h_2=>exact hk.elim
   rename_i n es f;split at hk
   case isFalse=>exact hk.elim
   rename_i hes;obtain⟨⟨hle,hcl⟩,hk⟩:=hk;obtain⟨m1,hm1,hmm⟩: ∃m1,s1 (.mt id)= .m (some m1)/\(m1=m\/m1={m with gN:=true}):=by
    rcases hf.2 id with e1|⟨m',e1,e2⟩
    . exact⟨m,by rw [e1,hm], .inl rfl⟩
    . rw [hm]at e1;simp only [Item.m.injEq,J3]at e1;subst e1;exact⟨_,e2, .inr rfl⟩
   have hns1:m1.ns=m.ns:=by rcases hmm with rfl|rfl<;>rfl
   have hrow1:m1.row=true:=by rcases hmm with rfl|rfl<;>exact hrow
   have hver1:m1.aD=aD:=by rcases hmm with rfl|rfl<;>exact hver
   have hes1:m1.es=es:=by rcases hmm with rfl|rfl<;>exact hes
   have he:=h.gK id m1 hm1;obtain⟨n0,f0,hseg0,_⟩:=he.row hrow1;have hns:m1.ns=1:=by
    have:=St.aU s1 id m1.ns;rw [hseg0]at this;simpa using this.symm
   have hseg:s1.az id m1.ns=[.a n es f]:=by
    rw [hns];have:s1.uC id 0=s.uC id 0:=by simp [St.uC,hf.1 (.sg id 0) (by simp)]
    simp [St.az,Q7,this,hy]
   obtain⟨ro2,hle2,hs2⟩:=h.freeze (by assumption) hm1 hseg hcl;have hfz:({m1 with gN:=true}:lZ)={m with gN:=true}:=by rcases hmm with rfl|rfl<;>rfl
   rw [hfz]at hs2;have hf2:zq s (s1.put (.mt id) (.m (some {m with gN:=true}))):=by
    refine⟨fun l hl=>by rw [St.bh _ _ (hl id)];exact hf.1 l hl,fun i=> ?_⟩
    by_cases hi:i=id
    . subst hi;exact .inr ⟨m,hm,St.cQ _ _ _⟩
    . rw [St.bh _ _ (by simpa using hi)];exact hf.2 i
   obtain⟨xs',ws',ro3,h1,h2,hff,h3,h4⟩:=mb hf2 hs2 (hr.2.mono hle2 (.refl _)) hk;refine⟨_,_,ro3,h1,hle2.trans h2,?_,?_,?_,h4⟩
   . exact hff
   . exact h3
   ·
    have hx:=hr.1;rcases fH hx with⟨b,hb,hcap,hv⟩|⟨_,hl,_,hv⟩
    . rw [<-hver1]at hb hv hcap;have he2:=hs2.gK id {m with gN:=true} (St.cQ _ _ _);have hb2:own.env id ({m with gN:=true}:lZ).aD=some (some b):=by rw [<-hfz];exact hb
      have hseg2:(s1.put (.mt id) (.m (some {m with gN:=true}))).az id ({m with gN:=true}:lZ).ns=[.a n es f]:=by
       rw [<-hfz];show(s1.put _ _).az id m1.ns=_
       rw [<-hseg];exact St.dc fun q _=>St.bh _ _ (by simp)
      have hfr:=he2.dn b hb2 rfl;rw [hseg2]at hfr;have hes0:own.es id 0=es:=by rw [he.es 0 (.a n es f) (by rw [hseg];rfl)];rfl
      have hlen: ∀i,i<n->(f i).length=es:=fun i hi=>by
       have:=hcl i hi;simp only [yr,J2,beq_iff_eq]at this;exact this.1
      have hpos: ∀i j,i<len->j<es->(off*es+(i*es+j))<n*es/\off*es+(i*es+j)=(off+i)*es+j:=by
       intro i j hi hj;have e1:(off+i)*es=off*es+i*es:=Ji _ _ _;have:(off+i+1)*es<=n*es:=Jl _ (by omega);rw [Ji]at this;exact⟨by omega,by omega⟩
      have hcell: ∀k,k<len*es-> ∃v,ro2 b (off*es+k)=some v:=by
       intro k hk2;have hes':0<es:=by
        rcases Jw es with h0|h0
        . subst h0;simp at hk2
        . exact h0
       have q1:k/es<len:=by rw [K9 hes'];exact hk2
       have q2:k%es<es:=Ki _ hes';have q3:k/es*es+k%es=k:=by rw [Km];exact Q5 k es
       have:=hpos _ _ q1 q2;rw [q3]at this;obtain⟨v,hv,_⟩:=hfr (off*es+k) (by simp [aa,ar.size];exact this.1);exact⟨v,hv⟩
      rw [hv,hes0];refine Rel.mono ?_ h2 (.refl _);refine .aI _ _ _ _ b (off*es) _ (fun k=>((ro2 b (off*es+k)).getD undef)) (by omega) (fun i hi=>hlen _ (by omega)) (fun k hk2=> ?_) (fun i j sv hi hj=> ?_)
      . obtain⟨v,hv⟩:=hcell k hk2;rw [hv];rfl
      . have hj':j<es:=by rw [<-hlen (off+i) (by omega)];exact(Jb.1 hj).1
        obtain⟨p1,p2⟩:=hpos i j hi hj';obtain⟨v,hv,hr2⟩:=hfr (off*es+(i*es+j)) (by simp [aa,ar.size];exact p1);rw [hv];refine hr2 sv ?_;rw [cy p1,p2];have:=lM (f:=f) (n:=n) (i:=off+i) (by omega) hj';rw [p2]at p1;simp only [ar.at,p1,if_true]at this;rw [this];exact hj
    . rw [hv];subst hl;exact .fe _ _ _ _ _ _ rfl
  all_goals
   simp only [iL,qh,Tx.ok]at hk;exact plain hk.1 hk.2
 |[],_::_,_,_,_,_,_,_,h,_=>h.elim
 |_::_,[],_,_,_,_,_,_,h,_=>h.elim
theorem jc : ∀{l:List ar} {cs:List SV},aV l=some cs->aa l=cs.length/\ ∀k,flat l k=cs[k]?
 |[],cs,h=>by simp [aV]at h;subst h;exact⟨rfl,fun k=>by simp [flat]⟩
 | .s v::r,cs,h=>by
  simp only [aV,Jp]at h;obtain⟨c,h1,rfl⟩:=h;obtain⟨p,q⟩:=jc h1;refine⟨by simp [aa,ar.size,p];omega,fun k=> ?_⟩;cases k with
  |zero=>rw [cC];rfl
  |succ k=>rw [cB,q];rfl
 | .a .. ::_,cs,h=>by simp [aV]at h
theorem pv : ∀(cs:List SV),aV (cs.map .s)=some cs
 |[]=>rfl
 |x::r=>by simp [aV,pv r]
theorem zr {ro:RO} {own:Own}: ∀{l:List SV} {v:List Value},l.length=v.length->(∀(i:Nat) (sv:SV) (u:Value),l[i]?=some sv->v[i]?=some u->Rel ro own sv u)->aQ ro own l v
 |[],[],_,_=>trivial
 |x::r,y::t,hl,h=>⟨h 0 x y rfl rfl,zr (by simpa using hl) fun i sv u h1 h2=>h (i+1) sv u (by simpa using h1) (by simpa using h2)⟩
 |[],_::_,hl,_=>by simp at hl
 |_::_,[],hl,_=>by simp at hl
theorem ko : ∀{xs:List SV} {vals:List Value} {s1:St} {ro1:RO} {k:List SV->List (Loc×Item)->Tx} {ws},zq s s1->bA E ro1 own s1 w a->aQ ro1 own xs vals->(cn xs k).ok s ws->
 ∃xs' ws' ro2,(k xs' ws').ok s ws/\ga ro1 ro2/\bA E ro2 own (s1.apply ws') w a/\aQ ro2 Own.empty xs' vals/\zq s (s1.apply ws')
 |[],[],s1,ro1,k,ws,hf,h,_,hk=>⟨[],[],ro1,hk, .refl _,h,trivial,hf⟩
 |x::r,v::vr,s1,ro1,k,ws,hf,h,hr,hk=>by
  have one: ∀{c:List SV} {cv:List Value} {g:List SV->SV},aQ ro1 own c cv->(∀ro2 c',aQ ro2 Own.empty c' cv->c'.length=c.length->Rel ro2 Own.empty (g c') v)->(iL c fun c' ws=>cn r fun r' ws'=>k (g c'::r') (ws++ws')).ok s ws->
   ∃xs' ws' ro2,(k xs' ws').ok s ws/\ga ro1 ro2/\bA E ro2 own (s1.apply ws') w a/\aQ ro2 Own.empty xs' (v::vr)/\zq s (s1.apply ws'):=by
   intro c cv g hc hg hk;obtain⟨c',w1,ro2,h1,h2,h3,h4,h5⟩:=mb hf h hc hk;obtain⟨xs',ws',ro3,k1,k2,k3,k4,k5⟩:=ko h3 h4 (hr.2.mono h2 (.refl _)) h1;exact⟨_,_,ro3,k1,h2.trans k2,by rw [aM];exact k3,⟨(hg ro2 c' h5 (by rw [h5.length,hc.length])).mono k2 (.refl _),k4⟩,by rw [aM];exact k5⟩
  have single:(qh x fun x' ws=>cn r fun r' ws'=>k (x'::r') (ws++ws')).ok s ws-> ∃xs' ws' ro2,(k xs' ws').ok s ws/\ga ro1 ro2/\bA E ro2 own (s1.apply ws') w a/\aQ ro2 Own.empty xs' (v::vr)/\zq s (s1.apply ws'):=by
   intro hk;refine one (c:=[x]) (cv:=[v]) (g:=fun c=>c.getD 0 .any) ⟨hr.1,trivial⟩ (fun ro2 c' hc hl=> ?_) ?_
   . match c',hc with
     |[y],hc=>exact hc.1
   . simp only [iL,Kw,List.getD_cons_zero];exact hk
  cases x
  case agg l=>
   simp only [cn,x7]at hk;split at hk
   . split at hk
     case h_2=>exact hk.elim
     rename_i cs hcs;obtain⟨vs,hv,hsz,hh⟩:=cU hr.1;obtain⟨p,q⟩:=jc hcs;refine one (c:=cs) (cv:=vs.toList) (g:=fun c=> .agg (c.map .s)) (zr (by simp;omega) fun i sv u h1 h2=> ?_) (fun ro2 c' hc hl=> ?_) hk
     . have:=hh i sv (by rw [q];exact h1);have e:vs.getD i undef=u:=by
        rw [Jf,<-Array.getElem?_toList,h2];rfl
       rw [e]at this;exact this
     . obtain⟨p',q'⟩:=jc (pv c');rw [hv];refine .agg _ _ _ (by rw [p',hl];omega) fun i sv hi=> ?_
       rw [q']at hi;obtain⟨u,hu,hr⟩:=hc.at i sv hi;have e:vs.getD i undef=u:=by
        rw [Jf,<-Array.getElem?_toList,hu];rfl
       rw [e];exact hr
   . obtain⟨hc,hk⟩:=hk;obtain⟨xs',ws',ro2,h1,h2,h3,h4,h5⟩:=ko hf h hr.2 hk;exact⟨_,[]++ws',ro2,h1,h2,h3,⟨(oC hr.1 hc).mono h2 (.refl _),h4⟩,h5⟩
  all_goals (simp only [cn,x7]at hk;exact single hk)
 |[],_::_,_,_,_,_,_,_,h,_=>h.elim
 |_::_,[],_,_,_,_,_,_,h,_=>h.elim
theorem iw {xs:List SV} {vals:List Value} {s1:St} {ro1:RO} {k:List SV->List (Loc×Item)->Tx} {ws} (hf:zq s s1) (h:bA E ro1 own s1 w a) (hr:aQ ro1 own xs vals) (hk:(cn xs k).ok s ws):
 ∃xs' ws' ro2,(k xs' ws').ok s ws/\ga ro1 ro2/\bA E ro2 own (s1.apply ws') w a/\aQ ro2 Own.empty xs' vals:=by
 obtain⟨xs',ws',ro2,h1,h2,h3,h4,_⟩:=ko hf h hr hk;exact⟨xs',ws',ro2,h1,h2,h3,h4⟩
theorem zq.free {s s1:St} (h:zq s s1) {id:Nat} (hf:s (.mt id)= .m none):s1 (.mt id)= .m none:=by
 rcases h.2 id with e|⟨m,e,_⟩
 . rw [e,hf]
 . rw [hf]at e;cases e
theorem BI.open {R:RO} {B:Nat} {e es n:Nat} {f:Nat->List SV} {v:Value} (h:BI R B w e es n f v): ∃ob cap,(ob=none->n=0/\v= .slice none 0 0)/\ ∀b,ob=some b->v= .slice (some ⟨b,0,none⟩) n cap/\ ∃cs,B<=b/\(∀o,R b o=none)/\w.heap[b]?=some (.cells cs e (0,0))/\cap<=maxLen/\cs.size=cap*es/\n<=cap/\ ∀k sv,flat [.a n es f] k=some sv->Rel R Own.empty sv (cs.getD k undef):=by
 rcases h with⟨h1,h2⟩|⟨b,cap,cs,h⟩
 . exact⟨none,0,fun _=>⟨h2,h1⟩,fun b hb=>by cases hb⟩
 . refine⟨some b,cap,(fun hb=>by cases hb),fun b' hb=> ?_⟩;simp only [J3]at hb;subst hb;exact⟨h.val,cs,h.low,h.apart,h.cells,h.capm,h.size,h.le,h.rel⟩
def DL (ro:RO) (w:World):RO:=fun b o=>match ro b o with
 |some v=>some v
 |none=>match w.frozen? ⟨b,o,none⟩with
  |true=>none
  |false=>match w.cell? ⟨b,o,none⟩with
   |some (.int _ _)=>none
   |r=>r
theorem CI (ro:RO) (w:World):ga ro (DL ro w):=fun b o v h=>by simp [DL,h]
theorem Vg (h: ∀b o v,ro b o=some v->eb w b o v) (b o:Nat) (v:Value) (hv:DL ro w b o=some v):eb w b o v:=by
 unfold DL at hv;split at hv
 . rename_i u hu;obtain rfl:u=v:=by simpa using hv
   exact h _ _ _ hu
 . split at hv
   . cases hv
   . rename_i hf;split at hv
     . cases hv
     . exact⟨hv,hf⟩
theorem R7 {b o:Nat} {k:IntKind} {n:Int} (hv:DL ro w b o=some (.int k n)):ro b o=some (.int k n):=by
 unfold DL at hv;split at hv
 . rename_i u hu;rw [hu];exact hv
 . split at hv
   . cases hv
   . split at hv
     . cases hv
     . rename_i hh;exact absurd hv (hh _ _)
theorem Vd (h: ∀b o v,ro b o=some v->eb w b o v) {b o:Nat} {v:Value} (hv:eb w b o v) (hn: ∀k n,v≠ .int k n):DL ro w b o=some v:=by
 unfold DL;split
 . rename_i u hu;have:=(h _ _ _ hu).1;rw [hv.1]at this;exact this.symm
 . split
   . rename_i hf;rw [hv.2]at hf;cases hf
   . split
     . rename_i k n hh;rw [hv.1]at hh;simp only [J3]at hh;exact absurd hh (hn _ _)
     . exact hv.1
theorem EG {x:SV} (h:UO x=true):fM x=true:=by cases x<;>simp_all [UO,fM]
theorem NL {o:Own} {x:SV} {v:Value} (h:UO x=true) (hr:Rel ro o x v): ∀k n,v≠ .int k n:=by
 intro k n e;subst e;cases x<;>simp [UO]at h<;>cases hr
theorem Pv (h:bA E ro own s w a) {x x':SV} {v:Value} {k:SV->Tx} {ws} (hr:Rel ro own x v) (hk:(P0 x x' k).ok s ws): ∃y,(k y).ok s ws/\Rel (DL ro w) Own.empty y v:=by
 have plain:(kK (gX x) (k x)).ok s ws-> ∃y,(k y).ok s ws/\Rel (DL ro w) Own.empty y v:=fun hk=>⟨x,hk.2,(oC hr hk.1).mono (CI _ _) (.refl _)⟩
 unfold P0 at hk;split at hk
 case h_2=>exact plain hk
 rename_i es _ _;split at hk
 case h_2=>exact plain hk
 rename_i id aD off len;obtain⟨n,g,hk2,hsrc⟩:=B5 h hr hk;obtain⟨hn,hk3⟩:=hk2;refine⟨_,hk3,?_⟩;rcases hsrc with⟨rfl,A,c,rfl⟩|⟨b,k0,c,rfl,hc⟩
 . exact .fe _ _ _ _ _ _ rfl
 have hcap:n<=c:=by
  rcases fH hr with⟨b',hb,hcap,hv⟩|⟨_,_,_,hv⟩
  . simp only [Value.slice.injEq]at hv;omega
  . simp at hv
 have hone: ∀i,i<n->(g i).length=es/\ ∀sv∈g i,UO sv=true:=fun i hi=>by
  have:=hn i hi;simpa only [nonR,J2,beq_iff_eq,Js]using this
 have cell: ∀i j sv,i<n->(g i)[j]?=some sv-> ∃u,DL ro w b (k0+(i*es+j))=some u/\Rel (DL ro w) Own.empty sv u:=fun i j sv hi hj=>by
  have hlt:=(Jb.1 hj).1;rw [(hone i hi).1]at hlt;obtain⟨u,hu,hru⟩:=hc i j hi hlt;have hni:=(hone i hi).2 sv (Y1 hj);have hr2:=hru sv hj;exact⟨u,Vd h.cJ hu (NL hni hr2),(iq hr2 (EG hni)).mono (CI _ _) (.refl _)⟩
 refine .aI _ _ _ _ b k0 c (fun k=>(DL ro w b (k0+k)).getD undef) hcap (fun i hi=>(hone i hi).1) (fun k hk=> ?_) (fun i j sv hi hj=> ?_)
 . have hes:0<es:=by
    rcases Jw es with h0|h0
    . subst h0;simp at hk
    . exact h0
   have q1:k/es<n:=by rw [K9 hes];exact hk
   have q2:k%es<es:=Ki _ hes;have q3:k/es*es+k%es=k:=by rw [Km];exact Q5 k es
   obtain⟨u,hu,_⟩:=cell (k/es) (k%es) _ q1 (J4 (by rw [(hone _ q1).1];exact q2));rw [q3]at hu;rw [hu];rfl
 . obtain⟨u,hu,hru⟩:=cell i j sv hi hj;simp only [hu,K5];exact hru
theorem Gt (h:bA E ro own s w a): ∀{xs xs':List SV} {vals:List Value} {k:List SV->Tx} {ws},aQ ro own xs vals->(NI xs xs' k).ok s ws-> ∃ys,(k ys).ok s ws/\aQ (DL ro w) Own.empty ys vals
 |[],_,[],k,ws,_,hk=>⟨[],hk,trivial⟩
 |x::r,x'::r',v::vr,k,ws,hr,hk=>by
  simp only [NI]at hk;obtain⟨y,hk1,hy⟩:=Pv h hr.1 hk;obtain⟨ys,hk2,hys⟩:=Gt h hr.2 hk1;exact⟨y::ys,hk2,hy,hys⟩
 |_::_,[],_,_,_,_,hk=>hk.elim
 |[],_,_::_,_,_,hr,_=>hr.elim
 |_::_,_,[],_,_,hr,_=>hr.elim
def T2 (ro:RO) (R':RO) (sz:Nat):RO:=fun b o=>if b<sz then ro b o else R' b o
theorem Bk {R':RO} {sz:Nat} (hold: ∀b o,b<sz->R' b o=DL ro w b o) {o o':Own} {r:SV} {v:Value} (hr:Rel R' o r v) (ht:xM r=true) (hp:Dn r):Rel (T2 ro R' sz) o' r v:=by
 cases r<;>simp [xM]at ht
 . rw [jJ hr];exact .bool _ _
 . rw [nX hr];exact .tt _
 . rw [qD hr];exact .ff _
 . rw [aK hr];exact .int _ _ _
 . rw [dR hr];exact .str _ _
 . rw [gh hr];exact .aq _
 . subst ht;rcases dE hr with⟨hl,A,cap,hv⟩|⟨b,k0,cap,vs,hv,hcap,hl,hm,hh⟩
   . subst hl;rw [hv];exact .fe _ _ _ _ _ _ rfl
   . rename_i len f;rw [hv];have cell: ∀i j sv,i<len->(f i)[j]?=some sv-> ∃k n,sv= .int k n/\vs (i*1+j)= .int k n:=fun i j sv hi hj=>by
      have h1:=hp i hi;rw [Js]at h1;have h2:=h1 sv (Y1 hj);cases sv<;>simp [isI]at h2
      exact⟨_,_,rfl,aK (hh i j _ hi hj)⟩
     refine .aI _ _ _ _ b k0 cap vs hcap hl (fun k hk=> ?_) (fun i j sv hi hj=> ?_)
     . have hk':k<len:=by omega
       obtain⟨q,n,_,e⟩:=cell k 0 _ hk' (J4 (by rw [hl k hk'];omega));simp only [Nat.mul_one,Jv]at e;have:=hm k hk;unfold T2;split
       . rename_i hb;rw [hold _ _ hb,e]at this;rw [e];exact R7 this
       . exact this
     . obtain⟨q,n,e1,e2⟩:=cell i j sv hi hj;rw [e1,e2];exact .int _ _ _
theorem Gs : ∀{l:List ar},El l=true->G9 l-> ∀{k:Nat} {sv:SV},flat l k=some sv->xM sv=true/\Dn sv
 |[],_,_,k,sv,h=>by cases h
 | .s v::r,ht,hp,k,sv,h=>by
  simp only [El,J2]at ht;cases k with
  |zero=>rw [cC]at h;simp only [J3]at h;subst h;exact⟨ht.1,hp.1⟩
  |succ k=>rw [cB]at h;exact Gs ht.2 hp.2 h
 | .a _ _ _::_,ht,_,k,sv,h=>by simp [El]at ht
theorem AA {R':RO} {sz:Nat} (hold: ∀b o,b<sz->R' b o=DL ro w b o) {o o':Own} {r:SV} {v:Value} (hr:Rel R' o r v) (ht:Be r=true) (hp:Co r):Rel (T2 ro R' sz) o' r v:=by
 cases r
 case agg l=>
  obtain⟨cs,hv,hs,hh⟩:=cU hr;rw [hv];refine .agg _ _ _ hs fun k sv hk=> ?_
  obtain⟨t1,t2⟩:=Gs ht hp hk;exact Bk hold (hh k sv hk) t1 t2
 all_goals exact Bk hold hr ht hp
theorem Er : ∀{l:List SV},EX l=true->HW l-> ∀{i:Nat} {sv:SV},l[i]?=some sv->Be sv=true/\Co sv
 |[],_,_,i,sv,h=>by simp at h
 |v::r,ht,hp,i,sv,h=>by
  simp only [EX,J2]at ht;cases i with
  |zero=>simp only [Xy,J3]at h;subst h;exact⟨ht.1,hp.1⟩
  |succ i=>simp only [Yb]at h;exact Er ht.2 hp.2 h
theorem OG {R':RO} {sz:Nat} (hold: ∀b o,b<sz->R' b o=DL ro w b o) {o o':Own} {r:SV} {v:Value} (hr:Rel R' o r v) (ht:thin r=true) (hp:Ig r):Rel (T2 ro R' sz) o' r v:=by
 cases r
 case bp l=>
  obtain⟨vs,hv,hs,hh⟩:=jt hr;rw [hv];refine .bp _ _ _ hs fun i sv hi=> ?_
  obtain⟨t1,t2⟩:=Er ht hp hi;exact AA hold (hh i sv hi) t1 t2
 all_goals exact AA hold hr ht hp
theorem HH {r:SV} (h:thin r=true):od r=true:=by
 cases r<;>simp_all [thin,Be,xM,od]
 rename_i l;cases l with
 |nil=>simp [od]
 |cons x r=>cases x<;>simp_all [EX,Be,xM,od]
theorem Ug {C:Nat->Option bB} (hC: ∀f c,C f=some c->nh P f c) (h:bA E ro own s w a) {o:Oper} {f nid:Nat} {xs:List SV} {vals:Array Value} (hrun: ∀fn,P.funcs[f]?=some fn->fn.body.isSome=true->(fn.name== "runtime.NumGoroutine")=false->(execOp a.eval o).run P w= .ok (.enter f vals) w)
 (hx:aQ ro own xs vals.toList) {ws} (hk:(UK E.N nid C o.dst f xs).ok s ws):fW E P o s w a ws:=by
 unfold UK at hk;split at hk
 case h_2=>exact hk.elim
 rename_i c hc;have hok:=hC f c hc;obtain⟨xs',ws',ro2,hk2,hle,hs,hr,hfz⟩:=ko (s:=s) ⟨fun _ _=>rfl,fun _=> .inl rfl⟩ h hx hk;clear hk;split at hk2
 case h_2=>exact hk2.elim
 rename_i p r hpr;obtain⟨fn,e1,e2,e3⟩:=hok.fn;intro Q;unfold Oper.wp;rw [hrun fn e1 e2 e3];have fin:p->(∀{v:Value} {R':RO} {w':World},bA E R' own (s.apply ws') w' a->uc R' w.heap.size w' r v->dL E (s.apply ws) w' (a.put o.dst v))->o.upon P a (fun a' w'=>dL E (s.apply ws) w' a') Q (.ok (.enter f vals) w):=by
  intro hp hfin;show Calls P f vals w _
  refine(hok.calls xs' p r hpr hp ro2 w vals hs.cJ hr).mono ?_;rintro e w' ⟨v,R',rfl,hv,hR,hR2,hR3,hb⟩;exact hfin (hs.called hb hR hR2 hR3) hv
 have fresh: ∀{e es n:Nat} {g:Nat->List SV} {x:SV},(wV E.N nid o.dst p ws' e es n g x).ok s ws->(∀{v:Value} {R':RO} {w':World} {own':Own},uc R' w.heap.size w' r v-> ∃v0,BI R' w.heap.size w' e es n g v0/\ ∀own':Own,Rel R' own' (.sl nid 0 0 n) v0->own'.le own'->Rel R' own' x v)->o.upon P a (fun a' w'=>dL E (s.apply ws) w' a') Q (.ok (.enter f vals) w):=by
  intro e es n g x hk3 hval;unfold wV at hk3;split at hk3
  case h_2=>exact hk3.elim
  rename_i d hd;split at hk3
  case isFalse=>exact hk3.elim
  rename_i hdN;obtain⟨hp,hk3⟩:=hk3;obtain⟨hfr,hk3⟩:=kC hk3;have hws:ws=ws'++(lO nid true (some e) es [.a n es g]++[(.tm d, .v x)]):=hk3.symm;subst hws;refine fin hp fun {v R' w'} hs' hv=> ?_
  obtain⟨v0,hF,hx0⟩:=hval (own':=own) hv;obtain⟨ob,cap,ho1,ho2⟩:=hF.open;have hfr':(s.apply ws') (.mt nid)= .m none:=hfz.free hfr;obtain⟨own',hle',k1,k2,k3,k4,hs3⟩:=hs'.adopt hfr' (es:=es) (n:=n) (cap:=cap) (f:=g) (e:=e) (ob:=ob) (fun hb=>(ho1 hb).1) (fun b hb=>by
   obtain⟨_,cs,c1,c2,c3,c4,c5,c6,c7⟩:=ho2 b hb;exact⟨cs,Jn h.base c1,c2,c3,c4,c5,c6,fun k sv hk=>(c7 k sv hk).own (Own.empty_le _)⟩) (fun id m b hm hz hb hob=>by
   obtain⟨_,cs,c1,_⟩:=ho2 b hob;obtain⟨cs',e',lo',hi',hh,_⟩:=((hs.gK id m hm).live b hb hz).body;have:=(K3.1 hh).1;omega)
  have hsl:Rel R' own' (.sl nid 0 0 n) v0:=by
   cases ob with
   |none=>
    obtain⟨c1,c2⟩:=ho1 rfl;rw [c2,c1];exact .Es _ _ _ _ _ k1 rfl rfl
   |some b=>
    obtain⟨c1,cs,_,_,_,_,_,c6,_⟩:=ho2 b rfl;have:=Rel.sl (ro:=R') own' nid 0 0 n b k1 (by rw [k2];omega);rw [k2]at this;rw [c1];simpa using this
  rw [hd,aM,aM,kA];exact⟨_,own',hs3.put hdN (hx0 own' hsl (.refl _))⟩
 split at hk2
 case h_1=>
  unfold Ok at hk2;obtain⟨ys,hk3,hys⟩:=Gt h hx hk2;split at hk3
  case h_2=>exact hk3.elim
  rename_i p2 r2 hpr2;split at hk3
  case h_2=>exact hk3.elim
  rename_i hth;have fin2:p2->Ig r2->(∀{v:Value} {R':RO} {w':World},bA E R' own s w' a->Rel R' own r2 v->dL E (s.apply ws) w' (a.put o.dst v))->o.upon P a (fun a' w'=>dL E (s.apply ws) w' a') Q (.ok (.enter f vals) w):=by
   intro hp hp2 hfin;show Calls P f vals w _
   refine(hok.calls ys p2 r2 hpr2 hp (DL ro w) w vals (Vg h.cJ) hys).mono ?_;rintro e w' ⟨v,R',rfl,hv,hR,hR2,hR3,hb⟩;refine hfin (R':=T2 ro R' w.heap.size) (h.called hb (fun b o v hv=> ?_) (fun b o v hv=> ?_) (fun b o hb=> ?_)) (OG hR3 (hv.plain (HH hth)) hth hp2)
   . unfold T2;split
     . exact hv
     . exact hR _ _ _ (CI _ _ _ _ _ hv)
   . unfold T2 at hv;split at hv
     . exact hR2 _ _ _ (hR _ _ _ (CI _ _ _ _ _ hv))
     . exact hR2 _ _ _ hv
   . simp [T2,hb]
  split at hk3
  . rename_i d hd;split at hk3
    case isFalse=>exact hk3.elim
    rename_i hdN;obtain⟨hp,hp2,hk3⟩:=hk3;have hws:ws=[(.tm d, .v r2)]:=hk3.symm;subst hws;refine fin2 hp hp2 fun hs' hv=> ?_
    rw [hd,kA];exact⟨_,own,hs'.put hdN hv⟩
  . rename_i hd;obtain⟨hp,hp2,hk3⟩:=hk3;have hws:ws=[]:=hk3.symm;subst hws;refine fin2 hp hp2 fun hs' hv=> ?_
    rw [hd];exact⟨_,own,hs'⟩
 split at hk2
 . refine fresh hk2 fun hv=>⟨_,hv,fun own' hr _=>hr⟩
 . refine fresh hk2 fun {v R' w' own'} hv=> ?_
   obtain⟨v0,vs,rfl,hF,hrs⟩:=hv;refine⟨v0,hF,fun own' hr _=> ?_⟩;refine .bp _ _ _ (by simp [hrs.length]) fun i sv hi=> ?_
   cases i with
   |zero=>simp at hi;subst hi;simpa using hr
   |succ i=>
    simp at hi;obtain⟨u,hu,hru⟩:=hrs.at i sv hi;have:=hru.own (Own.empty_le own');simpa [Jf,hu]using this
 . rename_i hn1 hn2;have hpl: ∀{R':RO} {B:Nat} {w':World} {v:Value},uc R' B w' r v->Rel R' Own.empty r v:=by
    intro R' B w' v hv;unfold uc at hv;split at hv
    . exact absurd rfl (hn1 _ _ _ _)
    . exact absurd rfl (hn2 _ _ _ _ _)
    . exact hv
   split at hk2
   . rename_i d hd;split at hk2
     case isFalse=>exact hk2.elim
     rename_i hdN;obtain⟨hp,hk2⟩:=hk2;have hws:ws=ws'++[(.tm d, .v r)]:=hk2.symm;subst hws;refine fin hp fun hs' hv=> ?_
     rw [hd,aM,kA];exact⟨_,own,hs'.put hdN ((hpl hv).own (Own.empty_le _))⟩
   . rename_i hd;obtain⟨hp,hk2⟩:=hk2;have hws:ws=ws':=hk2.symm;subst hws;refine fin hp fun hs' hv=> ?_
     rw [hd];exact⟨_,own,hs'⟩
theorem uJ {f:Nat} {args:Array Value} {fn:Func} (h1:P.funcs[f]?=some fn) (h2:fn.body.isSome=true) (h3:(fn.name== "runtime.NumGoroutine")=false):(callFunc f args).run P w= .ok (.enter f args) w:=by
 have h4:fn.body.isNone=false:=by cases hb:fn.body<;>simp [hb]at h2⊢
 simp only [callFunc,Sem.run_bind,run_program,Result.andThen_ok,h1,h3,h4,Jr,if_false,Sem.run_pure]
theorem Pr {C:Nat->Option bB} (hC: ∀f c,C f=some c->nh P f c) (h:bA E ro own s w a) {o:Oper} {c:Call} {nid:Nat} (ho:o.op= .call c) {ws} (hk:(Hn P E.N nid C o.dst c).ok s ws):fW E P o s w a ws:=by
 unfold Hn at hk;split at hk
 . rename_i g hcal;obtain⟨x',hx,hk1⟩:=aZ h hk;clear hk;split at hk1
   case h_2=>exact hk1.elim
   rename_i f ca cb;obtain⟨xs,hxs,hk⟩:=ku h hk1;clear hk1;obtain⟨va,vb,hv,hva,hvb⟩:=Hc hx;refine Ug hC h (f:=f) (vals:=va++c.args.map a.eval++vb) (fun fn e1 e2 e3=> ?_) ?_ hk
   . unfold execOp;simp only [ho,resolve,hcal,hv,Deferred.ofValue,Sem.run_bind,Sem.run_pure,Result.andThen_ok,invoke];exact uJ e1 e2 e3
   . simp only [Array.toList_append,Array.toList_map];exact(hva.append hxs).append hvb
 . rename_i b hcal;obtain⟨xs,hxs,hk1⟩:=ku h hk;clear hk;have hargs: ∀{x:SV},xs=[x]-> ∃v,c.args.map a.eval= #[v]/\Rel ro own x v:=by
    rintro x rfl
    match hl:c.args.toList.map a.eval,hxs with
    |[v],hh=>exact⟨v,by rw [<-Array.toList_inj];simpa using hl,hh.1⟩
   have hargs2: ∀{x y:SV},xs=[x,y]-> ∃v u,c.args.map a.eval= #[v,u]/\Rel ro own x v/\Rel ro own y u:=by
    rintro x y rfl
    match hl:c.args.toList.map a.eval,hxs with
    |[v,u],hh=>exact⟨v,u,by rw [<-Array.toList_inj];simpa using hl,hh.1,hh.2.1⟩
   split at hk1
   . rename_i x t ht;obtain⟨v,hv,hr⟩:=hargs rfl;have ht':c.argTypes= #[t]:=by rw [<-Array.toList_inj];exact ht
     obtain⟨n,hrun,hk2⟩:=run_len (P:=P) (w:=w) (n:=0) hr hk1;refine aP h (v:= .int .i64 n) ?_ (.int _ _ _) hk2;rw [aT ho hcal,ht',hv];have: ∀ty,(Builtin.len_ #[t] ty #[v]).run P w=(Builtin.len_ #[t] 0 #[v]).run P w:=fun _=>rfl
     simp [builtin,this,hrun]
   . rename_i x y;obtain⟨v,u,hv,hr1,hr2⟩:=hargs2 rfl;unfold oF at hk1;split at hk1
     case h_2=>exact hk1.elim
     rename_i z hz;unfold XF at hz;split at hz
     case h_2=>cases hz
     rename_i k p k' q;split at hz
     case isFalse=>cases hz
     rename_i e;subst e;simp at hz;subst hz;refine aP h (v:= .int k (if q<p then q else p)) ?_ (.int _ _ _) hk1;rw [aT ho hcal,hv,aK hr1,aK hr2];simp [builtin,Builtin.min_,Builtin.min2]
   . rename_i x y;obtain⟨v,u,hv,hr1,hr2⟩:=hargs2 rfl;unfold oF at hk1;split at hk1
     case h_2=>exact hk1.elim
     rename_i z hz;unfold Ga at hz;split at hz
     case h_2=>cases hz
     rename_i k p k' q;split at hz
     case isFalse=>cases hz
     rename_i e;subst e;simp at hz;subst hz;refine aP h (v:= .int k (if q>p then q else p)) ?_ (.int _ _ _) hk1;rw [aT ho hcal,hv,aK hr1,aK hr2];simp [builtin,Builtin.max_,Builtin.max2]
   . rename_i x y t t' ht;obtain⟨v,u,hv,hr1,hr2⟩:=hargs2 rfl;split at hk1
     . rename_i e;subst e;have ht':c.argTypes= #[t,t]:=by rw [<-Array.toList_inj];exact ht
       exact zT h ho hcal ht' hv hr1 hr2 hk1
     . have ht':c.argTypes= #[t,t']:=by rw [<-Array.toList_inj];exact ht
       exact DP h ho hcal ht' hv hr1 hr2 hk1
   . rename_i x y t t' ht;obtain⟨v,u,hv,hr1,hr2⟩:=hargs2 rfl;have ht':c.argTypes= #[t,t']:=by rw [<-Array.toList_inj];exact ht
     exact Pt h ho hcal ht' hv hr1 hr2 hk1
   . exact hk1.elim
 . exact hk.elim
theorem Ci (h:bA E ro own s w a) {o:Oper} {f:Nat} {x y:Array Operand} (ho:o.op= .makeFunc (.func f) x y) {ws} (hk:(jI x.toList fun x=>jI y.toList fun y=>bm E.N o.dst (.fn f x y)).ok s ws):fW E P o s w a ws:=by
 obtain⟨xs,hxs,hk1⟩:=ku h hk;clear hk;obtain⟨ys,hys,hk⟩:=ku h hk1;clear hk1;refine aP h (v:= .func (.func f) (x.map a.eval) (y.map a.eval)) ?_ (.fn _ _ _ _ _ _ ?_ ?_ ?_ ?_) hk
 . unfold execOp;simp [ho,Instr.makeFunc]
 . simpa using hxs.length.symm
 . simpa using hys.length.symm
 . intro i sv hi;obtain⟨u,hu,hr⟩:=hxs.at i sv hi;rw [Jf,<-Array.getElem?_toList,Array.toList_map,hu];exact hr
 . intro i sv hi;obtain⟨u,hu,hr⟩:=hys.at i sv hi;rw [Jf,<-Array.getElem?_toList,Array.toList_map,hu];exact hr
theorem foldl_push (ns:List Int): ∀(l:List UInt8),(ns.foldl (fun r n=>r.push (UInt8.ofNat n.toNat)) (⟨l.toArray⟩:ByteArray))=⟨(l++ns.map fun n=>UInt8.ofNat n.toNat).toArray⟩:=by
 induction ns with
 |nil=>intro l;simp
 |cons n ns ih=>
  intro l;have e:(⟨l.toArray⟩:ByteArray).push (UInt8.ofNat n.toNat)=⟨(l++[UInt8.ofNat n.toNat]).toArray⟩:=by simp [ByteArray.push]
  rw [List.foldl_cons,e,ih];simp
theorem Bq (h:bA E ro own s w a) {o:Oper} {nid:Nat} {S D:TypeId} {x:Operand} (ho:o.op= .convert S D x) {ws} {x':SV} (hx:Rel ro own x' (a.eval x)) (hk1:(yQ P E.N nid o.dst S D x').ok s ws):fW E P o s w a ws:=by
 unfold yQ at hk1;split at hk1
 . rename_i e hS hD;split at hk1
   case h_2=>exact hk1.elim
   rename_i hE;obtain⟨k,g,hk2,hsrc⟩:=pJ h hx hk1;obtain⟨hby,hk2⟩:=hk2;have key: ∃A c,a.eval x= .slice A k c/\(Conv.bytesToString (.slice A k c)).run P w= .ok (.string ⟨(bytesOf k g).toArray⟩) w:=by
    rcases hsrc with⟨rfl,A,c,hv⟩|⟨b,off,c,hv,hcell⟩
    . refine⟨A,c,hv,?_⟩;cases A with
      |none=>simp [Conv.bytesToString,bytesOf];rfl
      |some ad=>
       have:=run_bytesToString (P:=P) w ad 0 c [] (by simpa using run_loadCells_list (P:=P) w ad [] (by simp));rw [this];simp [bytesOf];rfl
    . refine⟨_,c,hv,?_⟩
      let ns:List Int:=(List.range k).map fun j=>match g j with|[.int .u8 n]=>n|_=>0
      have hns: ∀j,j<k-> ∃n,g j=[.int .u8 n]:=fun j hj=>by
       have:=hby j hj;unfold isByte at this;split at this
       . exact⟨_,by assumption⟩
       . cases this
      have hl:(loadCells ⟨b,off,none⟩ k).run P w= .ok (ns.map (Value.int .u8)).toArray w:=by
       have:=run_loadCells_list (P:=P) w ⟨b,off,none⟩ (ns.map (Value.int .u8)) (fun j v hj=>by
        have hlt:=(Jb.1 hj).1;simp only [ns,Qj,Zd]at hlt;obtain⟨n,hn⟩:=hns j hlt;obtain⟨u,hu,hr⟩:=hcell j 0 hlt (by omega);have:=hr (.int .u8 n) (by rw [hn];rfl);have hu2:=aK this;simp [ns,hlt,hn]at hj;rw [dU,<-hj,<-hu2];simpa using hu)
       simpa [ns]using this
      have:=run_bytesToString (P:=P) w ⟨b,off,none⟩ k c ns hl;rw [this];have e2:=foldl_push ns [];have e3:(ByteArray.empty:ByteArray)=⟨([]:List UInt8).toArray⟩:=rfl;rw [e3,e2]
      congr 4
      simp only [Jj,ns,List.map_map,bytesOf];refine Xl fun j hj=> ?_
      obtain⟨n,hn⟩:=hns j (Kn.1 hj);simp [hn,byteOf]
   obtain⟨A,c,hv,hrun⟩:=key;refine aP h (v:= .string ⟨(bytesOf k g).toArray⟩) ?_ (.str _ _) hk2;unfold execOp;have:=run_convert_bytes_string (P:=P) w S D e A k c hS hE hD;simp only [ho,hv];simp only [Sem.run_bind,this,hrun,Result.andThen_ok];rfl
 . rename_i e hS hD;split at hk1
   case h_2=>exact hk1.elim
   rename_i s' hE;have hv:=dR hx;have hrun:=Lib.run_convert_string_bytes (P:=P) w S D e ⟨s'.toArray⟩ hS hD hE;have hge:=grownCap_ge w s'.length 0 e;have hsz:(⟨s'.toArray⟩:ByteArray).size=s'.length:=by simp [ByteArray.size]
   have hcs:(Lib.bytesCells w e ⟨s'.toArray⟩).size=grownCap w s'.length 0 e:=by
    simp [Lib.bytesCells,hsz];omega
   refine qU h (cap:=grownCap w s'.length 0 e) (v:= .slice (some ⟨w.heap.size,0,none⟩) s'.length (grownCap w s'.length 0 e)) (w':=Lib.bytesWorld w e ⟨s'.toArray⟩) (cs:=Lib.bytesCells w e ⟨s'.toArray⟩) (e:=e) (lo:=grownCap w s'.length 0 e) (hi:=grownCap w s'.length 0 e+1) ?_ rfl rfl rfl ?_ (fun _=>⟨s'.length,_,rfl,hge,by rw [hcs];omega⟩) (by simp) ?_ (.inr ?_) (by simp) ?_ ?_ hk1
   . apply Xz;intro j;rw [Qv];split
     . subst j;rw [Lib.bytesWorld_at_new,hcs]
     . by_cases hj:j<w.heap.size
       . exact Lib.bytesWorld_at_old w e _ j hj
       . rw [Y2 (by rw [Lib.bytesWorld_size];omega),Y2 (by omega)]
   . unfold execOp;rw [hsz]at hrun;simp only [ho,hv];simp only [Sem.run_bind,hrun,Result.andThen_ok];rfl
   . rw [hcs];simp [aa,ar.size];omega
   . simp [aa,ar.size];omega
   . intro t sv ht;have hlt:t<s'.length:=by have:=cK ht;simpa [aa,ar.size]using this
     rw [cy (by omega)]at ht;simp only [Nat.div_one,Nat.mod_one,nQ]at ht;simp at ht;subst ht;have:(Lib.bytesCells w e ⟨s'.toArray⟩).getD t undef= .int .u8 ((s'.getD t 0).toNat:Int):=by
      simp [Lib.bytesCells,Jf,Y3,hlt]
     rw [this];exact .int _ _ _
   . intro own' k1 k2 k3 k4;have:=Rel.sl (ro:=ro) own' nid 0 0 s'.length w.heap.size k1 (by rw [k2];omega);rw [k2]at this;simpa using this
 . unfold AV at hk1;split at hk1
   case h_2=>exact hk1.elim
   rename_i k' k k2 n h1 h2;refine aP h (v:= .int k (k.wrap n)) ?_ (.int _ _ _) hk1;unfold execOp;simp [ho,aK hx,convert,run_underlying h1,run_underlying h2,Conv.intToInt]
theorem PC (h:bA E ro own s w a) {o:Oper} {nid:Nat} {S D:TypeId} {x:Operand} (ho:o.op= .convert S D x) {ws} (hk:(fR x (yQ P E.N nid o.dst S D)).ok s ws):fW E P o s w a ws:=by
 obtain⟨x',hx,hk1⟩:=aZ h hk;exact Bq h ho hx hk1
theorem Eg {C:Nat->Option bB} (hC: ∀f c,C f=some c->nh P f c) (h:bA E ro own s w a) {o:Oper} {nid:Nat} {ws} (hk:(kf P E.N C nid o).ok s ws):fW E P o s w a ws:=by
 unfold kf at hk;split at hk
 . exact ES h (.inl (by assumption)) hk
 . exact ES h (.inr (by assumption)) hk
 . exact OC h (by assumption) hk
 . exact Gh h (by assumption) hk
 . exact snd_box h (by assumption) hk
 . exact KX h (by assumption) hk
 . exact M6 h (by assumption) hk
 . split at hk
   . exact UG h (by assumption) (by assumption) hk
   . exact hk.elim
 . exact Ah h (by assumption) hk
 . exact Ae h (by assumption) hk
 . exact JY h (by assumption) hk
 . exact Y8 h (by assumption) hk
 . exact UU h (by assumption) hk
 . exact za h (by assumption) hk
 . exact RL h (by assumption) hk
 . exact Wo h (by assumption) hk
 . exact PC h (by assumption) hk
 . exact Al h (by assumption) hk
 . exact Lh h (by assumption) hk
 . exact GI h (by assumption) hk
 . exact Ci h (by assumption) hk
 . exact Pr hC h (by assumption) hk
 . exact hk.elim
end
end Go.Sx
namespace Go.Sx
open Go Go.RowKit
variable [bW]
universe v
structure bg where
 tm : List SV
 en : List (lZ × List ar)
def bg.get (s:bg):Loc->Item
 | .tm t=> .v (s.tm.getD t .any)
 | .mt id=> .m ((s.en[id]?).map (·.1))
 | .sg id q=> .s (((s.en[id]?).bind fun e=>e.2[q]?).getD (.s .any))
def bg.set (s:bg):Loc->Item->Option bg
 | .tm t, .v x=>if t<s.tm.length then some {s with tm:=s.tm.set t x}else none
 | .mt id, .m (some m)=>match s.en[id]? with
  |some (_,l)=>some {s with en:=s.en.set id (m,l)}
  |none=>if id=s.en.length then some {s with en:=s.en++[(m,List.replicate m.ns (.s .any))]}else none
 | .sg id q, .s x=>match s.en[id]? with
  |some (m,l)=>if q<l.length then some {s with en:=s.en.set id (m,l.set q x)}else none
  |none=>none
 |_,_=>none
theorem bg.tP {s s':bg} {l:Loc} {x:Item} (h:s.set l x=some s'):s'.get=St.put s.get l x:=by
 unfold bg.set at h;split at h
 . rename_i t x;split at h
   case isFalse=>cases h
   rename_i ht;simp at h;subst h
   funext l
   cases l with
   |tm t'=>
    simp only [bg.get,St.put,Loc.tm.injEq,J0,K6]
    by_cases e:t=t'
    . subst e;simp [ht]
    . simp [e,Yv e]
   |mt id=>simp [bg.get,St.put]
   |sg id q=>simp [bg.get,St.put]
 . rename_i id m;split at h
   . rename_i m0 l0 he;simp at h;subst h;obtain⟨hlt,he'⟩:=Jb.1 he
     funext l
     cases l with
     |tm t=>simp [bg.get,St.put]
     |mt id'=>
      simp only [bg.get,St.put,Loc.mt.injEq,K6]
      by_cases e1:id=id'
      . subst e1;simp [hlt]
      . simp [e1,Yv e1]
     |sg id' q=>
      simp only [bg.get,St.put,K6]
      by_cases e1:id=id'
      . subst e1;simp [hlt,he']
      . simp [e1]
   . rename_i he;split at h
     case isFalse=>cases h
     rename_i hl;simp at h;subst h;subst hl
     funext l
     cases l with
     |tm t=>simp [bg.get,St.put]
     |mt id'=>
      simp only [bg.get,St.put,Loc.mt.injEq]
      by_cases e1:id'=s.en.length
      . subst e1;simp
      . rcases Kv id' s.en.length with h1|h1
        . simp [e1,Ka h1]
        . rw [J7 (by simp;omega),J7 h1];simp [e1]
     |sg id' q=>
      simp only [bg.get,St.put]
      by_cases e1:id'=s.en.length
      . subst e1;simp only [List.getElem?_concat_length,Xg,J7 (J1 _),Option.bind_none,Option.getD_none,reduceCtorEq,if_false]
        by_cases h2:q<m.ns
        . simp [Xh,h2]
        . simp [Xh,h2]
      . rcases Kv id' s.en.length with h1|h1
        . simp [Ka h1]
        . rw [J7 (by simp;omega),J7 h1];simp
 . rename_i id q x;split at h
   case h_2=>cases h
   rename_i m0 l0 he;split at h
   case isFalse=>cases h
   rename_i hq;simp at h;subst h;obtain⟨hlt,he'⟩:=Jb.1 he
   funext l
   cases l with
   |tm t=>simp [bg.get,St.put]
   |mt id'=>
    simp only [bg.get,St.put,K6]
    by_cases e1:id=id'
    . subst e1;simp [hlt,he']
    . simp [e1]
   |sg id' q'=>
    simp only [bg.get,St.put,Loc.sg.injEq,K6]
    by_cases e1:id=id'
    . subst e1
      by_cases e2:q=q'
      . subst e2;simp [hlt,K6,hq]
      . simp [hlt,he',K6,e2,Yv e2]
    . simp [e1,Yv e1]
 . cases h
def bg.apply (s:bg):List (Loc×Item)->Option bg
 |[]=>some s
 |(l,x)::r=>match s.set l x with
  |some s'=>s'.apply r
  |none=>none
def bO {β:Sort v}:Nat->(Nat->β)->β
 |0,k=>k 0
 |n+1,k=>bO n fun m=>k (m+1)
theorem iu {β:Sort v}: ∀(n:Nat) (k:Nat->β),bO n k=k n
 |0,_=>rfl
 |n+1,k=>by simp only [bO,iu n]
def kN {β:Sort v} (m:lZ) (k:lZ->β):β:=
 match m with
 |⟨aD,gN,row,app,ns,es,sh⟩=>bO aD fun aD=>bO ns fun ns=>bO es fun es=>
  let rest (gN row:Bool):β:=match app with
   |none=>k ⟨aD,gN,row,none,ns,es,sh⟩
   |some t=>k ⟨aD,gN,row,some t,ns,es,sh⟩
  match gN,row with
  |true,true=>rest true true
  |true,false=>rest true false
  |false,true=>rest false true
  |false,false=>rest false false
theorem nI {β:Sort v} (m:lZ) (k:lZ->β):kN m k=k m:=by
 obtain⟨aD,gN,row,app,ns,es,sh⟩:=m;simp only [kN,iu];cases gN<;>cases row<;>cases app<;>rfl
def sC {β:Sort v} (x:SV) (k:SV->β):β:=
 match x with
 | .any=>k .any
 | .bool b=>k (.bool b)
 | .tt=>k .tt
 | .ff=>k .ff
 | .int a b=>k (.int a b)
 | .str a=>k (.str a)
 | .aq=>k .aq
 | .agg a=>k (.agg a)
 | .bp a=>k (.bp a)
 | .ptr a b=>bO a fun a=>bO b fun b=>k (.ptr a b)
 | .su a b c d e=>bO a fun a=>bO b fun b=>bO c fun c=>bO e fun e=>k (.su a b c d e)
 | .sl a b c d=>bO a fun a=>bO b fun b=>k (.sl a b c d)
 | .aI a b c=>bO a fun a=>k (.aI a b c)
 | .rA a b c d e=>bO a fun a=>bO e fun e=>k (.rA a b c d e)
 | .fn a b c=>k (.fn a b c)
 | .DG=>k .DG
 | .emp=>k .emp
 | .z9 a=>bO a fun a=>k (.z9 a)
 | .km=>k .km
 | .lG=>k .lG
 | .pn=>k .pn
 | .Gl e es n f=>k (.Gl e es n f)
 | .sy a b c d=>k (.sy a b c d)
 | .tg a=>k (.tg a)
theorem qZ {β:Sort v} (x:SV) (k:SV->β):sC x k=k x:=by cases x<;>simp only [sC,iu]
def kz {β:Sort v}:List ar->(List ar->β)->β
 |[],k=>k []
 | .s v::r,k=>sC v fun v=>kz r fun r=>k (.s v::r)
 | .a n es f::r,k=>kz r fun r=>k (.a n es f::r)
theorem ox {β:Sort v}: ∀(l:List ar) (k:List ar->β),kz l k=k l
 |[],_=>rfl
 | .s v::r,k=>by simp only [kz,qZ,ox r]
 | .a n es f::r,k=>by simp only [kz,ox r]
def C4 {β:Sort v} (x:SV) (k:SV->β):β:=
 match x with
 | .agg l=>kz l fun l=>k (.agg l)
 |x=>sC x k
theorem Bw {β:Sort v} (x:SV) (k:SV->β):C4 x k=k x:=by
 cases x
 case agg l=>exact ox l _
 all_goals (unfold C4;exact qZ _ k)
def qn {β:Sort v}:List SV->(List SV->β)->β
 |[],k=>k []
 |x::r,k=>C4 x fun x=>qn r fun r=>k (x::r)
theorem kJ {β:Sort v}: ∀(l:List SV) (k:List SV->β),qn l k=k l
 |[],_=>rfl
 |x::r,k=>by simp only [qn,Bw,kJ r]
def vU {β:Sort v} (x:SV) (k:SV->β):β:=
 match x with
 | .bp l=>qn l fun l=>k (.bp l)
 | .fn f a b=>qn a fun a=>qn b fun b=>k (.fn f a b)
 |x=>C4 x k
theorem Bm {β:Sort v} (x:SV) (k:SV->β):vU x k=k x:=by
 cases x
 case bp l=>exact kJ l _
 case fn f a b=>simp only [vU,kJ]
 all_goals (unfold vU;exact Bw _ k)
def fU {β:Sort v}:List (Loc×Item)->(List (Loc×Item)->β)->β
 |[],k=>k []
 |(l,x)::r,k=>
  let go (l:Loc):β:=match x with
   | .v x=>vU x fun x=>fU r fun r=>k ((l, .v x)::r)
   | .m (some m)=>kN m fun m=>fU r fun r=>k ((l, .m (some m))::r)
   | .m none=>fU r fun r=>k ((l, .m none)::r)
   | .s (.s v)=>sC v fun v=>fU r fun r=>k ((l, .s (.s v))::r)
   | .s (.a n es f)=>fU r fun r=>k ((l, .s (.a n es f))::r)
  match l with
  | .tm t=>go (.tm t)
  | .mt i=>bO i fun i=>go (.mt i)
  | .sg i q=>bO i fun i=>bO q fun q=>go (.sg i q)
theorem nN {β:Sort v}: ∀(l:List (Loc×Item)) (k:List (Loc×Item)->β),fU l k=k l
 |[],_=>rfl
 |(l,x)::r,k=>by
  have go: ∀l,(match x with
   | .v x=>vU x fun x=>fU r fun r=>k ((l, .v x)::r)
   | .m (some m)=>kN m fun m=>fU r fun r=>k ((l, .m (some m))::r)
   | .m none=>fU r fun r=>k ((l, .m none)::r)
   | .s (.s v)=>sC v fun v=>fU r fun r=>k ((l, .s (.s v))::r)
   | .s (.a n es f)=>fU r fun r=>k ((l, .s (.a n es f))::r))=k ((l,x)::r):=by
   intro l;cases x with
   |v x=>simp only [Bm,nN r]
   |m x=>cases x<;>simp only [nI,nN r]
   |s x=>cases x<;>simp only [qZ,nN r]
  cases l<;>simp only [fU,iu]<;>exact go _
def wY :List SV->(List SV->Prop)->Prop
 |[],k=>k []
 |x::r,k=>wY r fun r=>k (x::r)
theorem ye : ∀(l:List SV) (k:List SV->Prop),wY l k=k l
 |[],_=>rfl
 |x::r,k=>by simp only [wY,ye r]
def xe :List ar->(List ar->Prop)->Prop
 |[],k=>k []
 |x::r,k=>xe r fun r=>k (x::r)
theorem xX : ∀(l:List ar) (k:List ar->Prop),xe l k=k l
 |[],_=>rfl
 |x::r,k=>by simp only [xe,xX r]
def xc :List (lZ×List ar)->(List (lZ×List ar)->Prop)->Prop
 |[],k=>k []
 |(m,l)::r,k=>xe l fun l=>xc r fun r=>k ((m,l)::r)
theorem xE : ∀(l:List (lZ×List ar)) (k:List (lZ×List ar)->Prop),xc l k=k l
 |[],_=>rfl
 |(m,l)::r,k=>by simp only [xc,xX,xE r]
def bg.force (s:bg) (k:bg->Prop):Prop:=wY s.tm fun tm=>xc s.en fun en=>k ⟨tm,en⟩
theorem bg.force_eq (s:bg) (k:bg->Prop):s.force k=k s:=by simp only [bg.force,ye,xE]
def nk {β:Sort v} (x:Item) (k:Item->β):β:=match x with
 | .v x=>vU x fun x=>k (.v x)
 | .m (some m)=>kN m fun m=>k (.m (some m))
 | .m none=>k (.m none)
 | .s (.s v)=>sC v fun v=>k (.s (.s v))
 | .s (.a n es f)=>bO es fun es=>k (.s (.a n es f))
theorem Di {β:Sort v} (x:Item) (k:Item->β):nk x k=k x:=by
 cases x with
 |v x=>simp only [nk,Bm]
 |m x=>cases x<;>simp only [nk,nI]
 |s x=>cases x<;>simp only [nk,qZ,iu]
def Tx.run (s:bg):Tx->List Loc->(List Loc->List (Loc×Item)->Prop)->Prop
 | .done ws,R,k=>k R ws
 | .rd l f,R,k=>nk (s.get l) fun x=>(f x).run s (l::R) k
 | .AU p a,R,k=>p/\a.run s R k
 | .kK p _ a,R,k=>p/\a.run s R k
 | .fail,_,_=>False
theorem Tx.uZ {s:bg}: ∀{t:Tx} {R:List Loc} {k:List Loc->List (Loc×Item)->Prop},t.run s R k-> ∃ws R',t.ok s.get ws/\k R' ws/\(∀l∈t.reads s.get,l∈R')/\ ∀l∈R,l∈R'
 | .done ws,R,k,h=>⟨ws,R,rfl,h,by simp [Tx.reads],fun _ h=>h⟩
 | .rd l f,R,k,h=>by
  simp only [Tx.run,Di]at h;obtain⟨ws,R',h1,h2,h3,h4⟩:=Tx.uZ (t:=f (s.get l)) h;refine⟨ws,R',h1,h2,fun l' hl=> ?_,fun l' hl=>h4 l' (by simp [hl])⟩;simp only [Tx.reads,Kd]at hl;rcases hl with rfl|hl
  . exact h4 _ (by simp)
  . exact h3 l' hl
 | .AU p a,R,k,h=>by
  obtain⟨ws,R',h1,h2,h3,h4⟩:=Tx.uZ (t:=a) h.2;exact⟨ws,R',⟨h.1,h1⟩,h2,h3,h4⟩
 | .kK p _ a,R,k,h=>by
  obtain⟨ws,R',h1,h2,h3,h4⟩:=Tx.uZ (t:=a) h.2;exact⟨ws,R',⟨h.1,h1⟩,h2,h3,h4⟩
structure Ctx where
 P : Program
 N : Nat
 C : Nat -> Option bB
abbrev Tr :=List Loc×List Loc
def XA (ops:Array Oper) (i:Nat):Bool:=ops.toList.any fun o=>match o.guard with
 |some (j,_)=>j==i
 |none=>false
def ir (ops:Array Oper) (j:Nat):Option Tmp:=(ops[j]?).bind (·.dst)
def lL (dst:Option Tmp):List (Loc×Item):=match dst with
 |some d=>[(.tm d, .v (.bp []))]
 |none=>[]
def Iu (ops:Array Oper) (i:Nat) (ws:List (Loc×Item)) (k:List (Loc×Item)->Prop):Prop:=
 match ws with
 |[(.tm t, .v (.bool b))]=>(match XA ops i with
  |true=>(b=true->k [(.tm t, .v .tt)])/\(b=false->k [(.tm t, .v .ff)])
  |false=>k ws)
 |ws=>k ws
def YW {α:Type}:List α->Nat->α->(List α->Prop)->Prop
 |[],_,_,_=>False
 |_::r,0,v,k=>k (v::r)
 |x::r,n+1,v,k=>YW r n v fun r=>k (x::r)
theorem uD {α:Type}: ∀{l:List α} {n:Nat} {v:α} {k:List α->Prop},YW l n v k->n<l.length/\k (l.set n v)
 |[],_,_,_,h=>h.elim
 |_::_,0,_,_,h=>⟨by simp,h⟩
 |x::r,n+1,v,k,h=>by
  obtain⟨h1,h2⟩:=uD (l:=r) h;exact⟨by simpa using h1,h2⟩
def Rp {α:Type}:List α->α->(List α->Prop)->Prop
 |[],v,k=>k [v]
 |x::r,v,k=>Rp r v fun r=>k (x::r)
theorem Ip {α:Type}: ∀(l:List α) (v:α) (k:List α->Prop),Rp l v k=k (l++[v])
 |[],_,_=>rfl
 |x::r,v,k=>by simp only [Rp,Ip r];rfl
def bg.MJ (s:bg) (l:Loc) (x:Item) (k:bg->Prop):Prop:=match s with
 |⟨tm,en⟩=>match l,x with
  | .tm t, .v x=>YW tm t x fun tm=>k ⟨tm,en⟩
  | .mt id, .m (some m)=>match en[id]? with
   |some (_,l)=>YW en id (m,l) fun en=>k ⟨tm,en⟩
   |none=>match Nat.beq id en.length with
    |true=>Rp en (m,List.replicate m.ns (.s .any)) fun en=>k ⟨tm,en⟩
    |false=>False
  | .sg id q, .s x=>match en[id]? with
   |some (m,l)=>YW l q x fun l=>YW en id (m,l) fun en=>k ⟨tm,en⟩
   |none=>False
  |_,_=>False
theorem bg.uT {s:bg} {l:Loc} {x:Item} {k:bg->Prop} (h:s.MJ l x k): ∃s',s.set l x=some s'/\k s':=by
 obtain⟨tm,en⟩:=s;unfold bg.MJ at h;simp only at h;split at h
 . obtain⟨h1,h2⟩:=uD h;exact⟨_,by simp [bg.set,h1],h2⟩
 . split at h
   . rename_i he;obtain⟨h1,h2⟩:=uD h;exact⟨_,by simp [bg.set,he],h2⟩
   . rename_i he;split at h
     case h_2=>exact h.elim
     rename_i hb;rw [Ip]at h;have hb:=Jd hb;subst hb;exact⟨_,by simp [bg.set],h⟩
 . split at h
   case h_2=>exact h.elim
   rename_i he;obtain⟨h1,h2⟩:=uD h;obtain⟨h3,h4⟩:=uD h2;exact⟨_,by simp [bg.set,he,h1],h4⟩
 . exact h.elim
def ux (s:bg) (ws:List (Loc×Item)) (k:bg->Prop):Prop:=match ws with
 |[]=>k s
 |(l,x)::r=>s.MJ l x fun s=>ux s r k
def Me (s:bg) (d:Option Tmp) (k:bg->Prop):Prop:=match d with
 |none=>k s
 |some t=>match s.get (.tm t)with
  | .v (.bp [])=>k s
  |_=>ux s (lL d) k
def mJ (X:Ctx) (ops:Array Oper):List Oper->Nat->bg->List Tr->(bg->List Tr->Prop)->Prop
 |[],_,s,tr,k=>k s tr
 |o::rest,i,s,tr,k=>
  let wanted (R:List Loc):Prop:=bO s.en.length fun nid=>(kf X.P X.N X.C nid o).run s R fun R ws=>fU ws fun ws=>Iu ops i ws fun ws=>ux s ws fun s'=>mJ X ops rest (i+1) s' (tr++[(R,ws.map (·.1))]) k
  let skipped (R:List Loc):Prop:=Me s o.dst fun s'=>mJ X ops rest (i+1) s' (tr++[(R,(lL o.dst).map (·.1))]) k
  match o.guard with
  |none=>wanted []
  |some (j,want)=>match ir ops j with
   |some t=>match s.get (.tm t)with
    | .v .tt=>if want then wanted [.tm t]else skipped [.tm t]
    | .v .ff=>if want then skipped [.tm t]else wanted [.tm t]
    | .v (.bp [])=>skipped [.tm t]
    |_=>False
   |none=>False
def nV (E:Env) (P:Program) (ops:Array Oper) (i:Nat) (s:St) (R:List Loc) (ws:List (Loc×Item)):Prop:=
 ∀s':St,(∀l∈R,s' l=s l)-> ∀(w:World) (a:Act) (Q:Exit->Act->World->Prop) (K:Act->World->Prop),dL E s' w a->(∀a' w',dL E (s'.apply ws) w' a'->K a' w')->wpOp P ops Q i K a w
structure Step where
 R : List Loc
 ws : List (Loc × Item)
section
variable {E : Env}
theorem dL.Rs {s:St} {w:World} {a:Act} {t:Nat} {x y:SV} (h:dL E (s.put (.tm t) (.v x)) w a) (hxy: ∀ro own v,Rel ro own x v->Rel ro own y v):dL E (s.put (.tm t) (.v y)) w a:=by
 obtain⟨ro,own,h⟩:=h;have hne: ∀l,(∀t',l≠ .tm t')->(s.put (.tm t) (.v y)) l=(s.put (.tm t) (.v x)) l:=fun l hl=>by rw [St.bh _ _ (hl t),St.bh _ _ (hl t)]
 have hsg: ∀i n,(s.put (.tm t) (.v y)).az i n=(s.put (.tm t) (.v x)).az i n:=fun i n=>St.dc fun q _=>hne _ (by simp)
 refine⟨ro,own,{below:=h.below,base:=h.base,defs:=h.defs,size:=h.size,tm:= ?_,cJ:=h.cJ,ee:=h.ee,gK:= ?_,fr:= ?_,mY:= ?_,inj:= ?_,kk:=h.kk,mp:=h.mp' (.refl _) (.refl _) (fun id m h1 h2=>⟨by rw [hne _ (by simp)]at h1;exact h1,fun n e f h3=>by rw [hne _ (by simp)]at h3;exact h3⟩) (fun _ _ _ _ h=>h)}⟩
 . intro t' sv ht
   by_cases e:t'=t
   . subst e;rw [St.cQ]at ht;simp at ht;subst ht;exact hxy _ _ _ (h.tm t' x (St.cQ _ _ _))
   . rw [St.bh _ _ (by simpa using e)]at ht;exact h.tm t' sv (by rw [St.bh _ _ (by simpa using e)];exact ht)
 . intro i m hm;rw [hne _ (by simp)]at hm;rw [hsg];exact h.gK i m hm
 . intro i hm;rw [hne _ (by simp)]at hm;exact h.fr i hm
 . intro i m hm;rw [hne _ (by simp)]at hm;exact h.mY i m hm
 . intro i i' m m' b h1 h2;rw [hne _ (by simp)]at h1 h2;exact h.inj i i' m m' b h1 h2
theorem T8 {ro:RO} {own:Own} {v:Value} {b:Bool} (hb:b=true) (h:Rel ro own (.bool b) v):Rel ro own .tt v:=by
 rw [jJ h,hb];exact .tt _
theorem S3 {ro:RO} {own:Own} {v:Value} {b:Bool} (hb:b=false) (h:Rel ro own (.bool b) v):Rel ro own .ff v:=by
 rw [jJ h,hb];exact .ff _
theorem yV {s:St} {w:World} {a:Act} {ops:Array Oper} {j t:Nat} (h:dL E s w a) (hj:ir ops j=some t) (ht:t<E.N) {x:SV} (hx:s (.tm t)= .v x): ∀v,(∃ro own,Rel ro own x v/\a.tmps.getD t undef=v)->yielded ops a.tmps j=match v with| .bool b=>some b|_=>none:=by
 rintro v ⟨ro,own,hr,hv⟩;obtain⟨_,_,hg⟩:=h;have hsz:t<a.tmps.size:=by rw [hg.size];exact ht
 unfold yielded;unfold ir at hj;have e:a.tmps[t]?=some v:=by
  rw [Jf,getElem?_pos a.tmps t hsz]at hv;rw [getElem?_pos a.tmps t hsz];simpa using hv
 rw [hj];simp only [Xg,e];cases v<;>rfl
theorem mM : ∀{ws:List (Loc×Item)} {s:bg} {k:bg->Prop},ux s ws k-> ∃s':bg,s'.get=St.apply s.get ws/\k s'
 |[],s,k,h=>⟨s,rfl,h⟩
 |(l,x)::r,s,k,h=>by
  obtain⟨s1,h1,h2⟩:=bg.uT h;obtain⟨s2,h3,h4⟩:=mM h2;exact⟨s2,by rw [h3,bg.tP h1];rfl,h4⟩
theorem L6 {d:Option Tmp} {s:bg} {k:bg->Prop} (h:Me s d k): ∃s':bg,s'.get=St.apply s.get (lL d)/\k s':=by
 unfold Me at h;split at h
 . exact⟨s,rfl,h⟩
 . rename_i t;split at h
   . rename_i ht;refine⟨s,?_,h⟩
     funext l
     simp only [lL,St.apply]
     by_cases e:l= .tm t
     . subst e;rw [St.cQ,ht]
     . rw [St.bh _ _ e]
   . exact mM h
theorem NU {ops:Array Oper} {i:Nat} {ws:List (Loc×Item)} {k:List (Loc×Item)->Prop} (h:Iu ops i ws k):k ws\/ ∃t b,ws=[(.tm t, .v (.bool b))]/\((b=true/\k [(.tm t, .v .tt)])\/(b=false/\k [(.tm t, .v .ff)])):=by
 unfold Iu at h;split at h
 . rename_i t b;split at h
   . refine .inr ⟨t,b,rfl,?_⟩;cases b with
     |true=>exact .inl ⟨rfl,h.1 rfl⟩
     |false=>exact .inr ⟨rfl,h.2 rfl⟩
   . exact .inl h
 . exact .inl h
theorem tR {X:Ctx} (hN:E.N=X.N) (hC: ∀f c,X.C f=some c->nh X.P f c) {ops:Array Oper}: ∀{l:List Oper} {i:Nat} {s:bg} {tr:List Tr} {k:bg->List Tr->Prop},mJ X ops l i s tr k->(∀j,j<l.length->l[j]?=ops[i+j]?)->(∀o∈l,∀t,(match o.guard with|some (j,_)=>ir ops j=some t->t<E.N|none=>True))->
 (∀o∈l,∀d,o.dst=some d->d<E.N)->
 ∃(st:List Step) (s1:bg),st.length=l.length/\s1.get=St.apply s.get (st.flatMap (·.ws))/\k s1 (tr++st.map fun x=>(x.R,x.ws.map (·.1)))/\ ∀(m:Nat) (x:Step),st[m]?=some x->nV E X.P ops (i+m) (St.apply s.get ((st.take m).flatMap (·.ws))) x.R x.ws
 |[],i,s,tr,k,h,_,_,_=>⟨[],s,rfl,rfl,by simpa [mJ]using h,by simp⟩
 |o::rest,i,s,tr,k,h,hops,hgs,hds=>by
  have hoi:ops[i]?=some o:=by simpa using (hops 0 (by simp)).symm
  have fin: ∀{R:List Loc} {ws:List (Loc×Item)},nV E X.P ops i s.get R ws->(∃s':bg,s'.get=St.apply s.get ws/\mJ X ops rest (i+1) s' (tr++[(R,ws.map (·.1))]) k)->
   ∃(st:List Step) (s1:bg),st.length=(o::rest).length/\s1.get=St.apply s.get (st.flatMap (·.ws))/\k s1 (tr++st.map fun x=>(x.R,x.ws.map (·.1)))/\ ∀(m:Nat) (x:Step),st[m]?=some x->nV E X.P ops (i+m) (St.apply s.get ((st.take m).flatMap (·.ws))) x.R x.ws:=by
   intro R ws hstep hc;obtain⟨s',hs',hk⟩:=hc;obtain⟨st,s1,h1,h2,h3,h4⟩:=tR hN hC hk (fun j hj=>by have:=hops (j+1) (by simpa using hj);simpa [Kt,Nat.add_comm 1 j]using this) (fun o' ho'=>hgs o' (by simp [ho'])) (fun o' ho'=>hds o' (by simp [ho']));rw [hs']at h2 h4;refine⟨⟨R,ws⟩::st,s1,by simp [h1],by simp [h2,aM],by simpa [Jq]using h3,fun m x hx=> ?_⟩;cases m with
   |zero=>simp at hx;subst hx;exact hstep
   |succ m=>
    simp at hx;have:=h4 m x hx;simp only [Qu,Xq,aM];rw [show i+(m+1)=i+1+m from by omega];exact this
  have wanted: ∀{R0:List Loc},(∀(s':St) (w:World) (a:Act),(∀l∈R0,s' l=s.get l)->dL E s' w a->Region.wanted o (yielded ops a.tmps)=true)->
   ((kf X.P X.N X.C s.en.length o).run s R0 fun R ws=>fU ws fun ws=>Iu ops i ws fun ws=>ux s ws fun s'=>mJ X ops rest (i+1) s' (tr++[(R,ws.map (·.1))]) k)->
   ∃(st:List Step) (s1:bg),st.length=(o::rest).length/\s1.get=St.apply s.get (st.flatMap (·.ws))/\k s1 (tr++st.map fun x=>(x.R,x.ws.map (·.1)))/\ ∀(m:Nat) (x:Step),st[m]?=some x->nV E X.P ops (i+m) (St.apply s.get ((st.take m).flatMap (·.ws))) x.R x.ws:=by
   intro R0 hw hrun;obtain⟨ws0,R,hok,hk,hR,hR0⟩:=Tx.uZ hrun;rw [nN]at hk;have base: ∀(s':St),(∀l∈R,s' l=s.get l)-> ∀(w:World) (a:Act) (Q:Exit->Act->World->Prop) (K:Act->World->Prop),dL E s' w a->(∀a' w',dL E (s'.apply ws0) w' a'->K a' w')->wpOp X.P ops Q i K a w:=by
    intro s' hag w a Q K hs hK;unfold wpOp;rw [hoi];simp only [hw s' w a (fun l hl=>hag l (hR0 l hl)) hs,if_true];left;obtain⟨ro,own,hsg⟩:=hs;have hok':(kf X.P E.N X.C s.en.length o).ok s' ws0:=by
     rw [hN];exact Tx.local _ (fun l hl=>hag l (hR l hl)) _ hok
    exact Oper.wp_mono (fun a' w' h'=>hK a' w' h') (Eg hC hsg hok' Q)
   have hk1:=NU hk;clear hk;rcases hk1 with hk2|⟨t,b,rfl,hk2⟩
   . exact fin base (mM hk2)
   . rcases hk2 with⟨hb,hk⟩|⟨hb,hk⟩
     . refine fin (fun s' hag w a Q K hs hK=>base s' hag w a Q K hs fun a' w' h'=>hK a' w' ?_) (mM hk);exact dL.Rs h' fun _ _ _ hr=>T8 hb hr
     . refine fin (fun s' hag w a Q K hs hK=>base s' hag w a Q K hs fun a' w' h'=>hK a' w' ?_) (mM hk);exact dL.Rs h' fun _ _ _ hr=>S3 hb hr
  have skipped: ∀{R0:List Loc},(∀(s':St) (w:World) (a:Act),(∀l∈R0,s' l=s.get l)->dL E s' w a->Region.wanted o (yielded ops a.tmps)=false)->
   (Me s o.dst fun s'=>mJ X ops rest (i+1) s' (tr++[(R0,(lL o.dst).map (·.1))]) k)->
   ∃(st:List Step) (s1:bg),st.length=(o::rest).length/\s1.get=St.apply s.get (st.flatMap (·.ws))/\k s1 (tr++st.map fun x=>(x.R,x.ws.map (·.1)))/\ ∀(m:Nat) (x:Step),st[m]?=some x->nV E X.P ops (i+m) (St.apply s.get ((st.take m).flatMap (·.ws))) x.R x.ws:=by
   intro R0 hw hk;refine fin (fun s' hag w a Q K hs hK=> ?_) (L6 hk);unfold wpOp;rw [hoi];simp only [hw s' w a hag hs,Jr,if_false];refine hK _ _ ?_;obtain⟨ro,own,hsg⟩:=hs;cases hd:o.dst with
   |none=>exact⟨ro,own,hsg⟩
   |some d=>exact⟨ro,own,hsg.put (hds o (by simp) d hd) (.bp _ [] #[] rfl (by simp))⟩
  simp only [mJ,iu]at h;split at h
  . rename_i hgd;exact wanted (R0:=[]) (fun _ _ _ _ _=>by simp [Region.wanted,hgd]) h
  . rename_i j want hgd;split at h
    case h_2=>exact h.elim
    rename_i t hj;have htN:t<E.N:=by
     have:=hgs o (by simp) t;rw [hgd]at this;exact this hj
    have yl: ∀{x:SV} (s':St) (w:World) (a:Act),s.get (.tm t)= .v x->(∀l∈[Loc.tm t],s' l=s.get l)->dL E s' w a-> ∃v,(∃ro own,Rel ro own x v)/\yielded ops a.tmps j=match v with| .bool b=>some b|_=>none:=by
     intro x s' w a hx hag hs;have hx':s' (.tm t)= .v x:=by rw [hag _ (by simp),hx]
     obtain⟨ro,own,hsg⟩:=hs;have hr:=hsg.tm t x hx';exact⟨_,⟨ro,own,hr⟩,yV ⟨ro,own,hsg⟩ hj htN hx' _ ⟨ro,own,hr,rfl⟩⟩
    split at h
    . rename_i hx;have y1: ∀(s':St) (w:World) (a:Act),(∀l∈[Loc.tm t],s' l=s.get l)->dL E s' w a->yielded ops a.tmps j=some true:=by
       intro s' w a hag hs;obtain⟨v,⟨_,_,hr⟩,hy⟩:=yl s' w a hx hag hs;rw [hy,nX hr]
      split at h
      . rename_i hw;exact wanted (fun s' w a hag hs=>by simp [Region.wanted,hgd,y1 s' w a hag hs,hw]) h
      . rename_i hw;exact skipped (fun s' w a hag hs=>by simp [Region.wanted,hgd,y1 s' w a hag hs,hw]) h
    . rename_i hx;have y1: ∀(s':St) (w:World) (a:Act),(∀l∈[Loc.tm t],s' l=s.get l)->dL E s' w a->yielded ops a.tmps j=some false:=by
       intro s' w a hag hs;obtain⟨v,⟨_,_,hr⟩,hy⟩:=yl s' w a hx hag hs;rw [hy,qD hr]
      split at h
      . rename_i hw;exact skipped (fun s' w a hag hs=>by simp [Region.wanted,hgd,y1 s' w a hag hs,hw]) h
      . rename_i hw;exact wanted (fun s' w a hag hs=>by simp [Region.wanted,hgd,y1 s' w a hag hs,hw]) h
    . rename_i hx;refine skipped (fun s' w a hag hs=> ?_) h;obtain⟨v,⟨_,_,hr⟩,hy⟩:=yl s' w a hx hag hs;obtain⟨vs,hv,_⟩:=jt hr;rw [hv]at hy;simp [Region.wanted,hgd,hy]
    . exact h.elim
theorem vC {P:Program} {ops:Array Oper} {Q:Exit->Act->World->Prop}: ∀(st:List Step) (i:Nat) (s:St),(∀(m:Nat) (x:Step),st[m]?=some x->nV E P ops (i+m) (s.apply ((st.take m).flatMap (·.ws))) x.R x.ws)->
 (∀a w,dL E (s.apply (st.flatMap (·.ws))) w a->Q .normal a w)-> ∀a w,dL E s w a->wpOps P ops Q (List.range' i st.length) a w
 |[],i,s,_,hQ,a,w,hs=>hQ a w hs
 |x::r,i,s,hst,hQ,a,w,hs=>by
  rw [Jc,Z7,wpOps_cons];have h0:=hst 0 x rfl;simp only [Z8,List.flatMap_nil,Jv]at h0;refine h0 s (fun _ _=>rfl) w a Q _ hs fun a' w' hs'=> ?_
  refine vC r (i+1) (s.apply x.ws) (fun m y hy=> ?_) (fun a w h'=>hQ a w (by rw [Xq,aM];exact h')) a' w' hs';have:=hst (m+1) y (by simpa using hy);rw [Qu,Xq,aM,show i+(m+1)=i+1+m from by omega]at this;exact this
end
end Go.Sx
namespace Go.Sx
open Go Go.RowKit
variable [bW]
def Loc.enc :Loc->Nat
 | .tm t=>3*t
 | .mt i=>3*i+1
 | .sg i q=>3*(64*i+q)+2
def bY :List Loc->Nat
 |[]=>0
 |l::r=>(1<<<l.enc)|||bY r
theorem nW : ∀{L:List Loc} {l:Loc},l∈L->(bY L).testBit l.enc=true
 |x::r,l,h=>by
  simp only [bY,Qc,Qz];rcases Kd.1 h with rfl|h
  . left;simp [Ze,Nat.testBit_two_pow_self]
  . right;exact nW h
theorem xK {A B:List Loc} (h:bY A&&&bY B=0) {l:Loc} (ha:l∈A):l∉B:=fun hb=>by
 have:=congrArg (·.testBit l.enc) h;simp [Nat.testBit_and,nW ha,nW hb]at this
def et (ops:Array Oper):List (List Nat):=ops.toList.map fun o=>(o.after.toList.filter (Region.binds .any)).map (·.on)
def cl (acc:List Nat):List Nat->Nat
 |[]=>0
 |d::r=>((1<<<d)|||acc.getD d 0)|||cl acc r
def closure :List (List Nat)->List Nat->List Nat
 |[],acc=>acc
 |ds::r,acc=>closure r (acc++[cl acc ds])
theorem F0 {acc:List Nat} {b:Nat}: ∀{ds:List Nat},(cl acc ds).testBit b=true->b∈ds\/ ∃d∈ds,(acc.getD d 0).testBit b=true
 |d::r,h=>by
  simp only [cl,Qc,Qz]at h;rcases h with(h|h)|h
  . rw [Ze,Nat.testBit_two_pow]at h;left;simp at h;simp [h]
  . exact .inr ⟨d,by simp,h⟩
  . rcases F0 h with h|⟨d',h1,h2⟩
    . exact .inl (by simp [h])
    . exact .inr ⟨d',by simp [h1],h2⟩
 |[],h=>by simp [cl]at h
theorem rQ {dirs:List (List Nat)} {D:Nat->Prop} (hc: ∀(j:Nat) (ds:List Nat),dirs[j]?=some ds->D j-> ∀d∈ds,D d): ∀(rest pre:List (List Nat)) (acc:List Nat),dirs=pre++rest->acc.length=pre.length->
 (∀(j m:Nat),acc[j]?=some m->(∀ds,dirs[j]?=some ds-> ∀d∈ds,D d)-> ∀b,m.testBit b=true->D b)-> ∀(j m:Nat),(closure rest acc)[j]?=some m->(∀ds,dirs[j]?=some ds-> ∀d∈ds,D d)-> ∀b,m.testBit b=true->D b
 |[],pre,acc,_,_,h=>h
 |ds::r,pre,acc,hd,hl,h=>by
  refine rQ hc r (pre++[ds]) (acc++[cl acc ds]) (by simp [hd]) (by simp [hl]) ?_;intro j m hj hds b hb;rcases Kv j acc.length with h1|h1
  . rw [Ka h1]at hj;exact h j m hj hds b hb
  . have h2:j=acc.length:=by
     have:=(Jb.1 hj).1;simp at this;omega
    subst h2;simp at hj;subst hj;have hdd:dirs[acc.length]?=some ds:=by rw [hd,hl];simp
    rcases F0 hb with h3|⟨d,h3,h4⟩
    . exact hds ds hdd b h3
    . have hDd:=hds ds hdd d h3;cases hm:acc[d]? with
      |none=>rw [J0,hm]at h4;simp at h4
      |some m'=>
       rw [J0,hm]at h4;exact h d m' hm (fun ds' h'=>hc d ds' h' hDd) b h4
def my (i ri wi:Nat):List (Nat×Nat×Nat)->Bool
 |[]=>true
 |(m,r,w)::rest=>(m.testBit i||(Nat.beq (wi&&&(r|||w)) 0&&Nat.beq (w&&&ri) 0))&&my i ri wi rest
def qj :Nat->List (Nat×Nat×Nat)->Bool
 |_,[]=>true
 |i,(_,r,w)::rest=>my i r w rest&&qj (i+1) rest
theorem wv {i ri wi:Nat}: ∀{l:List (Nat×Nat×Nat)},my i ri wi l=true-> ∀x∈l,x.1.testBit i=true\/(wi&&&(x.2.1|||x.2.2)=0/\x.2.2&&&ri=0)
 |(m,r,w)::rest,h,x,hx=>by
  simp only [my,J2,Qz]at h;rcases Kd.1 hx with rfl|hx
  . rcases h.1 with h|h
    . exact .inl h
    . exact .inr ⟨Jd h.1,Jd h.2⟩
  . exact wv h.2 x hx
theorem B4 : ∀{l:List (Nat×Nat×Nat)} {k:Nat},qj k l=true-> ∀(i j:Nat) (x y:Nat×Nat×Nat),i<j->l[i]?=some x->l[j]?=some y->y.1.testBit (k+i)=true\/(x.2.2&&&(y.2.1|||y.2.2)=0/\y.2.2&&&x.2.1=0)
 |[],k,_,i,j,x,y,_,hx,_=>by simp at hx
 |(m,r,w)::rest,k,h,i,j,x,y,hij,hx,hy=>by
  simp only [qj,J2]at h;cases j with
  |zero=>omega
  |succ j=>
   simp at hy;cases i with
   |zero=>
    simp at hx;subst hx;exact wv h.1 y (Y1 hy)
   |succ i=>
    simp at hx;have:=B4 h.2 i j x y (by omega) hx hy
    rwa [show k+1+i=k+(i+1)from by omega]at this
def Gj :Nat->List (List Nat)->Bool
 |_,[]=>true
 |i,ds::r=>ds.all (fun d=>Nat.blt d i)&&Gj (i+1) r
theorem zU : ∀{l:List (List Nat)} {k:Nat},Gj k l=true-> ∀(i:Nat) (ds:List Nat),l[i]?=some ds-> ∀d∈ds,d<k+i
 |ds::r,k,h,i,ds',hi,d,hd=>by
  simp only [Gj,J2,Js]at h;cases i with
  |zero=>simp at hi;subst hi;simpa [Z1]using h.1 d hd
  |succ i=>
   simp at hi;have:=zU h.2 i ds' hi d hd;omega
def wH :List Nat->List Tr->List (Nat×Nat×Nat)
 |m::ms,t::ts=>(m,bY t.1,bY t.2)::wH ms ts
 |_,_=>[]
theorem zi : ∀{ms:List Nat} {ts:List Tr} {i m:Nat} {t:Tr},ms[i]?=some m->ts[i]?=some t->(wH ms ts)[i]?=some (m,bY t.1,bY t.2)
 |_::_,_::_,0,m,t,h1,h2=>by simp at h1 h2;subst h1 h2;rfl
 |_::_,_::_,i+1,m,t,h1,h2=>by simp at h1 h2;simpa [wH]using zi h1 h2
def Ej (ops:Array Oper) (tr:List Tr):Bool:=
 Gj 0 (et ops)&&qj 0 (wH (closure (et ops) []) tr)
theorem qd : ∀(l:List (List Nat)) (acc:List Nat),(closure l acc).length=acc.length+l.length
 |[],acc=>by simp [closure]
 |_::r,acc=>by rw [closure,qd r];simp;omega
section
variable {E : Env}
def wG :List Step->Nat->(Nat->Bool)->St->St
 |[],_,_,s=>s
 |x::r,i,D,s=>wG r (i+1) D (if D i then s.apply x.ws else s)
theorem zE : ∀(ws:List (Loc×Item)) {s s':St} {l:Loc},(s l=s' l\/l∈ws.map (·.1))->(s.apply ws) l=(s'.apply ws) l
 |[],_,_,_,h=>h.resolve_right (by simp)
 |(l',x)::r,s,s',l,h=>by
  simp only [St.apply];apply zE r
  by_cases e:l=l'
  . subst e;left;rw [St.cQ,St.cQ]
  . rw [St.bh _ _ e,St.bh _ _ e];rcases h with h|h
    . exact .inl h
    . right;simpa [e]using h
theorem rz : ∀(ws:List (Loc×Item)) {s:St} {l:Loc},l∉ws.map (·.1)->(s.apply ws) l=s l
 |[],_,_,_=>rfl
 |(l',x)::r,s,l,h=>by
  simp at h;simp only [St.apply];rw [rz r (by simpa using h.2),St.bh _ _ h.1]
theorem kB : ∀(st:List Step) {i:Nat} {D D':Nat->Bool} {s s':St} {l:Loc},s l=s' l->(∀(m:Nat) (x:Step),st[m]?=some x->D (i+m)=D' (i+m)\/l∉x.ws.map (·.1))->wG st i D s l=wG st i D' s' l
 |[],_,_,_,_,_,_,h,_=>h
 |x::r,i,D,D',s,s',l,h,hm=>by
  simp only [wG];refine kB r ?_ fun m y hy=>by
   have:=hm (m+1) y (by simpa using hy)
   rwa [show i+(m+1)=i+1+m from by omega]at this
  rcases hm 0 x rfl with h0|h0
  . simp only [Jv]at h0;rw [h0];split
    . exact zE _ (.inl h)
    . exact h
  . have e1:=rz x.ws (s:=s) h0;have e2:=rz x.ws (s:=s') h0;split<;>split<;>simp only [e1,e2,h]
theorem lN : ∀(st:List Step) (i:Nat) (s:St),wG st i (fun _=>false) s=s
 |[],_,_=>rfl
 |x::r,i,s=>by simp only [wG];exact lN r (i+1) s
theorem Gk : ∀(st:List Step) {i:Nat} {D:Nat->Bool} {s:St} {m:Nat} {x:Step} {l:Loc},st[m]?=some x->D (i+m)=true->l∈x.ws.map (·.1)->
 (∀(m':Nat) (x':Step),m<m'->st[m']?=some x'->D (i+m')=true->l∉x'.ws.map (·.1))-> ∀s'':St,wG st i D s l=(s''.apply x.ws) l
 |x::r,i,D,s,0,y,l,hy,hD,hl,h,s''=>by
  simp at hy;subst hy;simp only [Jv]at hD;simp only [wG,hD,if_true];have:wG r (i+1) D (s.apply x.ws) l=wG r (i+1) (fun _=>false) (s.apply x.ws) l:=kB r rfl fun m y hy=>by
   cases hd:D (i+1+m)with
   |false=>exact .inl rfl
   |true=>exact .inr (h (m+1) y (by omega) (by simpa using hy) (by rw [show i+(m+1)=i+1+m from by omega];exact hd))
  rw [this,lN];exact zE _ (.inr hl)
 |x::r,i,D,s,m+1,y,l,hy,hD,hl,h,s''=>by
  simp only [wG];exact Gk r (i:=i+1) (by simpa using hy) (by rw [show i+1+m=i+(m+1)from by omega];exact hD) hl (fun m' x' hm hx hd=>h (m'+1) x' (by omega) (by simpa using hx) (by rw [show i+(m'+1)=i+1+m' from by omega];exact hd)) s''
theorem yt : ∀(st:List Step) (i k:Nat) (s:St),wG st i (fun m=>decide (m<i+k)) s=s.apply ((st.take k).flatMap (·.ws))
 |[],i,k,s=>by simp [wG,St.apply]
 |x::r,i,0,s=>by
  have:(fun m=>decide (m<i+0)) i=false:=by simp
  simp only [wG,this];have h2: ∀l,wG r (i+1) (fun m=>decide (m<i+0)) s l=wG r (i+1) (fun _=>false) s l:=fun l=>kB r rfl fun m y _=> .inl (by simp;omega)
  funext l
  simp only [Jr,if_false,h2 l,lN];rfl
 |x::r,i,k+1,s=>by
  have:(fun m=>decide (m<i+(k+1))) i=true:=by simp
  simp only [wG,this,if_true];rw [Qu,Xq,aM,<-yt r (i+1) k]
  congr 1
  funext m;congr 1;simp;omega
def No :List Bool->Nat
 |[]=>0
 |b::r=>(if b then 0 else 1)+No r
theorem IN : ∀(l:List Bool) (i:Nat),l[i]?=some false->No (l.set i true)+1=No l
 |b::r,0,h=>by simp at h;subst h;simp [No];omega
 |b::r,i+1,h=>by
  have:=IN r i (by simpa using h);simp only [List.set_cons_succ,No];omega
theorem FX : ∀(l:List Bool),No l=0-> ∀(i:Nat),l[i]?≠some false
 |b::r,h,0=>by simp [No]at h⊢;exact h.1
 |b::r,h,i+1=>by simp only [No]at h;simpa using FX r (by omega) i
 |[],_,_=>by simp
theorem mq : ∀n,No (List.replicate n false)=n
 |0=>rfl
 |n+1=>by rw [Qy,No,mq n];simp;omega
theorem BH {P:Program} {ops:Array Oper} {Q:Exit->Act->World->Prop} {st:List Step} {s:St} (hlen:st.length=ops.size)
 (hst: ∀(m:Nat) (x:Step),st[m]?=some x->nV E P ops m (s.apply ((st.take m).flatMap (·.ws))) x.R x.ws) (hok:Ej ops (st.map fun x=>(x.R,x.ws.map (·.1)))=true)
 (hQ: ∀a w,dL E (s.apply (st.flatMap (·.ws))) w a->Q .normal a w):
 ∀(fuel:Nat) (listed:Array Bool),listed.size=ops.size->No listed.toList<=fuel->(∀(j:Nat) (o:Oper),ops[j]?=some o->listed.getD j false=true-> ∀e∈o.after,Region.binds .any e=true->listed.getD e.on false=true)->
 ∀a w,dL E (wG st 0 (fun m=>listed.getD m false) s) w a->wpAny P .any ops Q fuel listed a w:=by
 simp only [Ej,J2]at hok;have hdir: ∀(j:Nat) (o:Oper),ops[j]?=some o->(et ops)[j]?=some ((o.after.toList.filter (Region.binds .any)).map (·.on)):=fun j o ho=>by
  simp only [et,J5,Xp,ho,K4]
 have hdirlen:(et ops).length=ops.size:=by simp [et]
 have hap: ∀(listed:Array Bool),(∀(j:Nat) (o:Oper),ops[j]?=some o->listed.getD j false=true-> ∀e∈o.after,Region.binds .any e=true->listed.getD e.on false=true)->
  ∀(i j:Nat) (x y:Step),i<j->st[i]?=some x->st[j]?=some y->((∀o,ops[j]?=some o-> ∀e∈o.after,Region.binds .any e=true->listed.getD e.on false=true)->listed.getD i false=true)\/
   ((∀l∈x.ws.map (·.1),l∉y.R/\l∉y.ws.map (·.1))/\ ∀l∈y.ws.map (·.1),l∉x.R):=by
  intro listed hcl i j x y hij hx hy;have hjl:j<(et ops).length:=by rw [hdirlen,<-hlen];exact(Jb.1 hy).1
  have hil:i<(et ops).length:=by omega
  have hcll:(closure (et ops) []).length=(et ops).length:=by simp [qd]
  obtain⟨mi,hmi⟩: ∃m,(closure (et ops) [])[i]?=some m:=⟨_,J4 (by omega)⟩;obtain⟨mj,hmj⟩: ∃m,(closure (et ops) [])[j]?=some m:=⟨_,J4 (by omega)⟩;have:=B4 hok.2 i j _ _ hij (zi hmi (by rw [J5,hx];rfl)) (zi hmj (by rw [J5,hy];rfl));rcases this with h|⟨h1,h2⟩
  . left;intro hr;simp only [Jg]at h;refine rQ (dirs:=et ops) (D:=fun m=>listed.getD m false=true) ?_ (et ops) [] [] rfl rfl (by simp) j mj hmj ?_ i h
    . intro j' ds hds hD d hd;obtain⟨o,ho⟩: ∃o,ops[j']?=some o:=⟨_,Xr (by have:=(Jb.1 hds).1;omega)⟩;rw [hdir j' o ho]at hds;simp at hds;subst hds;simp at hd;obtain⟨e,⟨he1,he2⟩,rfl⟩:=hd;exact hcl j' o ho hD e he1 he2
    . intro ds hds d hd;obtain⟨o,ho⟩: ∃o,ops[j]?=some o:=⟨_,Xr (by omega)⟩;rw [hdir j o ho]at hds;simp at hds;subst hds;simp at hd;obtain⟨e,⟨he1,he2⟩,rfl⟩:=hd;exact hr o ho e he1 he2
  . right;have e:bY (x.ws.map (·.1))&&&bY y.R=0/\bY (x.ws.map (·.1))&&&bY (y.ws.map (·.1))=0:=by
     simp only [Nat.and_or_distrib_left]at h1;exact Nat.or_eq_zero_iff.1 h1
    exact⟨fun l hl=>⟨xK e.1 hl,xK e.2 hl⟩,fun l hl=>xK h2 hl⟩
 have hall: ∀(listed:Array Bool),listed.size=ops.size->Region.ready .any ops listed=[]-> ∀i,i<ops.size->listed.getD i false=true:=by
  intro listed hsz hr i
  induction i using Nat.strongRecOn with
  |_ i ih=>
   intro hi;cases hd:listed.getD i false with
   |true=>rfl
   |false=>
    exfalso;have hm:i∈Region.ready .any ops listed:=by
     rw [mem_ready];have hil:i<listed.size:=by omega
     refine⟨?_,_,Xr hi,fun e he hb=> ?_⟩
     . simpa [hil]using hd
     . have:=zU hok.1 i _ (hdir i _ (Xr hi)) e.on (by
        simp only [Kh,List.mem_filter];exact⟨e,⟨by simpa using he,hb⟩,rfl⟩)
       exact ih e.on (by omega) (by omega)
    rw [hr]at hm;cases hm
 have hdone: ∀(listed:Array Bool),listed.size=ops.size->Region.ready .any ops listed=[]-> ∀a w,dL E (wG st 0 (fun m=>listed.getD m false) s) w a->Q .normal a w:=by
  intro listed hsz hr a w hs;refine hQ a w ?_;have:wG st 0 (fun m=>listed.getD m false) s=s.apply (st.flatMap (·.ws)):=by
   have e:=yt st 0 st.length s;rw [List.take_length]at e;rw [<-e]
   funext l
   refine kB st rfl fun m x hx=> .inl ?_
   have hm:=(Jb.1 hx).1;have:=hall listed hsz hr m (by omega);simp only [Jg,this,hm,decide_true]
  rwa [this]at hs
 intro fuel
 induction fuel with
 |zero=>
  intro listed hsz hu hcl a w hs;have hr:Region.ready .any ops listed=[]:=by
   rw [List.eq_nil_iff_forall_not_mem];intro j hj;obtain⟨h0,o,ho,_⟩:=mem_ready.1 hj;have hj:j<listed.size:=by rw [hsz];exact(K3.1 ho).1
   refine FX listed.toList (by omega) j ?_;simp [hj]at h0⊢;exact h0
  exact⟨hr,hdone listed hsz hr a w hs⟩
 |succ fuel ih=>
  intro listed hsz hu hcl a w hs;refine⟨fun hr=>hdone listed hsz hr a w hs,fun i hi=> ?_⟩;obtain⟨h0,o,ho,hpre⟩:=mem_ready.1 hi;have hio:i<ops.size:=(K3.1 ho).1;have hil:i<listed.size:=by omega
  obtain⟨x,hx⟩: ∃x,st[i]?=some x:=⟨_,J4 (by omega)⟩;have hun:listed.getD i false=false:=by simp [hil]at h0⊢;exact h0
  have before: ∀(m:Nat) (y:Step),m<i->st[m]?=some y->listed.getD m false=true\/((∀l∈y.ws.map (·.1),l∉x.R/\l∉x.ws.map (·.1))/\ ∀l∈x.ws.map (·.1),l∉y.R):=fun m y hm hy=>by
   rcases hap listed hcl m i y x hm hy hx with h|h
   . exact .inl (h fun o' ho' e he hb=>by rw [ho]at ho';cases ho';exact hpre e he hb)
   . exact .inr h
  have later: ∀(m:Nat) (y:Step),i<m->st[m]?=some y->listed.getD m false=true->((∀l∈x.ws.map (·.1),l∉y.R/\l∉y.ws.map (·.1))/\ ∀l∈y.ws.map (·.1),l∉x.R):=fun m y hm hy hl=>by
   rcases hap listed hcl i m x y hm hx hy with h|h
   . have:=h fun o' ho' e he hb=>hcl m o' ho' hl e he hb
     rw [hun]at this;cases this
   . exact h
  have agree: ∀l∈x.R,wG st 0 (fun m=>listed.getD m false) s l=(s.apply ((st.take i).flatMap (·.ws))) l:=fun l hl=>by
   rw [<-yt st 0 i s];refine kB st rfl fun m y hy=> ?_
   simp only [Jg];rcases Nat.lt_trichotomy m i with h|h|h
   . rcases before m y h hy with h1|h1
     . left;simp [h1,h]
     . right;intro hw;exact(h1.1 l hw).1 hl
   . subst h;left;simp [hun]
   . cases hd:listed.getD m false with
     |false=>left;simp;omega
     |true=>right;intro hw;exact(later m y h hy hd).2 l hw hl
  have hset: ∀m,(listed.setIfInBounds i true).getD m false=if m=i then true else listed.getD m false:=fun m=>by
   by_cases e:m=i
   . subst e;simp [hil]
   . rw [getD_set_ne false (Yv e)];simp [e]
  have grow:(wG st 0 (fun m=>listed.getD m false) s).apply x.ws=wG st 0 (fun m=>(listed.setIfInBounds i true).getD m false) s:=by
   funext l
   by_cases hl:l∈x.ws.map (·.1)
   . rw [Gk st (m:=i) hx (by simp only [Jg,hset];simp) hl (fun m' y hm hy hd=>by
      simp only [Jg,hset]at hd;rw [if_neg (by omega)]at hd;exact fun hw=>((later m' y hm hy hd).1 l hl).2 hw)]
   . rw [rz _ hl];refine kB st rfl fun m y hy=> ?_
     simp only [Jg,hset]
     by_cases e:m=i
     . subst e;rw [hx]at hy;cases hy;exact .inr hl
     . left;simp [e]
  refine hst i x hx _ agree w a Q _ hs fun a' w' hs'=> ?_
  rw [grow]at hs';refine ih _ (by simp [hsz]) ?_ ?_ a' w' hs'
  . have:=IN listed.toList i (by simp [hil]at h0⊢;exact h0);rw [Array.toList_setIfInBounds];omega
  . intro j o' ho' hd e he hb;rw [hset]at hd⊢;split
    . rfl
    . by_cases ej:j=i
      . subst ej;rw [ho]at ho';cases ho';exact hpre e he hb
      . rw [if_neg ej]at hd;exact hcl j o' ho' hd e he hb
end
end Go.Sx
