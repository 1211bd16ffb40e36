import Derived.Test.YtpjiopgakifhaaaGreatTE
set_option linter.unusedSectionVars false
set_option linter.unusedSimpArgs false
set_option linter.unusedVariables false
set_option maxRecDepth 100000
namespace Go.Sx
open Go Go.RowKit
variable [bW]
section
variable {E : Env} {P : Program} {ro : RO} {own : Own} {s : St} {w : World} {a : Act}
theorem Ez (h:bA E ro own s w a) {o:Oper} {nid:Nat} {T:TypeId} {r:Option Operand} (ho:o.op= .makeMap T r) {ws} (hk:(vH P E.N nid o.dst T r).ok s ws):fW E P o s w a ws:=by
 unfold vH at hk;split at hk
 case h_2=>exact hk.elim
 rename_i k e d hT hd;split at hk
 case isFalse=>exact hk.elim
 rename_i hdN;obtain⟨hf,hk⟩:=kC hk;have hws:=hk.symm
 change ws=_ at hws
 subst hws;intro Q;unfold Oper.wp;have hrun:(execOp a.eval o).run P w= .ok (.value (.map (some w.heap.size))) (w.alloc (.map #[] 0)):=by
  unfold execOp;simp [ho,Instr.makeMap]
 rw [hrun];have hj:=h.WY (.map #[] 0);have hb:(w.alloc (.map #[] 0)).heap[w.heap.size]?=some (.map #[] 0):=by unfold World.alloc;simp only;rw [Qv,if_pos rfl]
 obtain⟨own',hle,e1,_,hs⟩:=hj.Ow (n0:=0) (e0:=2) (g0:=fun _=>[]) hf (b:=w.heap.size) h.base hb (by simp) (.map #[] 0 0 _ rfl (by simp)) (fun id m n e f h1 h2 h3 h4=>by have:=h.map_lt h1 h2 h3 h4;omega);show dL E _ _ (a.put o.dst _)
 rw [hd];refine⟨ro,own',?_⟩;show bA E ro own' ((s.apply [(.mt nid, .m (some gd)),(.sg nid 0, .s (.a 0 2 fun _=>[]))]).put (.tm d) (.v (.z9 nid))) _ _
 exact hs.put hdN (.z9 _ _ _ e1)
theorem GW {kt:TypeDesc} {key k:SV} {kv v:Value} {b:Bool} (hd:(∃ik n,kt= .int ik/\key= .int ik n)\/(∃l,kt= .string/\key= .str l)) (h1:Rel ro own key kv) (h2:Rel ro own k v) (h:sameKey key k=some b):Instr.sameNow kt kv v=some b:=by
 rcases hd with⟨ik,n,rfl,rfl⟩|⟨l,rfl,rfl⟩
 . rw [aK h1];cases k<;>simp [sameKey]at h
   rename_i k' n';obtain⟨rfl,rfl⟩:=h;rw [aK h2];simp [Instr.sameNow]
 . rw [dR h1];cases k<;>simp [sameKey]at h
   rename_i l';subst h;rw [dR h2];simp only [Instr.sameNow,J3];rw [Xm,MapKept.bytes_beq,beq_iff_eq];exact⟨fun e=>by injection e with e;simpa using e,fun e=>by rw [e]⟩
theorem Et {k:TypeId} {key:SV} (h:Ie P k key=true): ∃kt,P.underlying k=some kt/\((∃ik n,kt= .int ik/\key= .int ik n)\/(∃l,kt= .string/\key= .str l)):=by
 unfold Ie at h;split at h
 . split at h
   . rename_i ik n ik' hu;simp at h;subst h;exact⟨_,hu, .inl ⟨_,_,rfl,rfl⟩⟩
   . cases h
 . split at h
   . exact⟨_,by assumption, .inr ⟨_,rfl,rfl⟩⟩
   . cases h
 . cases h
theorem Ca {kt:TypeDesc} {key:SV} {kv:Value} (hd:(∃ik n,kt= .int ik/\key= .int ik n)\/(∃l,kt= .string/\key= .str l)) (h1:Rel ro own key kv) {f:Nat->List SV}: ∀(es:List MapEntry) (i:Nat) (r:Option Nat),yM f key es.length i=some r->(∀(t:Nat) (e:MapEntry),es[t]?=some e-> ∃k v,f (i+t)=[k,v]/\Rel ro own k e.key/\Rel ro own v e.val)->
 (r=none/\Instr.findNow kt kv es i=some none)\/ ∃(t:Nat) (e:MapEntry),r=some (i+t)/\es[t]?=some e/\Instr.findNow kt kv es i=some (some (i+t,e.val))
 |[],i,r,h,_=>by
  simp [yM]at h;exact .inl ⟨h.symm,rfl⟩
 |e::es,i,r,h,hf=>by
  obtain⟨k,v,f1,f2,f3⟩:=hf 0 e rfl;simp only [Jc,yM]at h;rw [show f i=[k,v]from f1]at h;simp only at h;cases hs:sameKey key k with
  |none=>rw [hs]at h;cases h
  |some b=>
   rw [hs]at h;have hn:=GW hd h1 f2 hs;cases b with
   |true=>
    simp at h;exact .inr ⟨0,e,by simp [h],rfl,by simp [Instr.findNow,hn]⟩
   |false=>
    simp only at h;rcases Ca hd h1 es (i+1) r h (fun t e' ht=>by
     obtain⟨k',v',g1,g2,g3⟩:=hf (t+1) e' (by simpa using ht);exact⟨k',v',by rw [show i+1+t=i+(t+1)from by omega];exact g1,g2,g3⟩)with⟨q1,q2⟩|⟨t,e',q1,q2,q3⟩
    . exact .inl ⟨q1,by simp [Instr.findNow,hn,q2]⟩
    . exact .inr ⟨t+1,e',by rw [q1,show i+1+t=i+(t+1)from by omega],by simpa using q2,by simp only [Instr.findNow,hn];rw [q3,show i+1+t=i+(t+1)from by omega]⟩
theorem run_checkKey {k:TypeId} {kt:TypeDesc} {key:SV} {kv:Value} (hu:P.underlying k=some kt) (hd:(∃ik n,kt= .int ik/\key= .int ik n)\/(∃l,kt= .string/\key= .str l)) (h1:Rel ro own key kv) (b:Bool) (n:Nat):(Instr.checkKey b (n+1) k kv).run P w= .ok () w:=by
 rcases hd with⟨ik,n,rfl,rfl⟩|⟨l,rfl,rfl⟩
 . rw [aK h1];simp [Instr.checkKey,run_underlying hu]
 . rw [dR h1];simp [Instr.checkKey,run_underlying hu]
theorem Ol {v:Value} (h:Rel ro own .km v):v= .map none:=by cases h;rfl
theorem nR {v:Value} (h:Rel ro own .emp v): ∃A,v= .slice (some A) 0 0:=by cases h;exact⟨_,rfl⟩
theorem P7 {id:Nat} {v:Value} (h:Rel ro own (.z9 id) v): ∃b,own.env id 0=some (some b)/\v= .map (some b):=by cases h;exact⟨_,by assumption,rfl⟩
theorem Gd {o:Obj} {n:Nat} {f:Nat->List SV} (h:mD ro own o n 2 f): ∃es clk,o= .map es clk/\es.size=n/\ ∀(i:Nat) (e:MapEntry),es[i]?=some e-> ∃k v,f i=[k,v]/\Rel ro own k e.key/\Rel ro own v e.val:=by
 cases h with
 |map es clk _ _ h hf=>exact⟨es,clk,rfl,h,hf⟩
theorem P6 {o:Obj} {n:Nat} {f:Nat->List SV} (h:mD ro own o n 3 f): ∃(l:List UInt8) (pos:Nat),o= .stringIter ⟨l.toArray⟩ pos/\ ∃k v,f 0=[k,v]/\Rel ro own k (.string ⟨l.toArray⟩)/\Rel ro own v (.int .i64 (pos:Int)):=by
 cases h with
 |iter l pos _ _ hf hn=>exact⟨l,pos,rfl,hf⟩
theorem I4 (h:bA E ro own s w a) {o:Oper} {T:TypeId} {x key:Operand} {sx sk:SV} (ho:o.op= .lookup T x key false) (hx:Rel ro own sx (a.eval x)) (hkey:Rel ro own sk (a.eval key)) {ws} (hk:(xw P E.N o.dst T sx sk).ok s ws):fW E P o s w a ws:=by
 unfold xw at hk;split at hk
 case h_2=>exact hk.elim
 rename_i k e hT;split at hk
 case h_2=>exact hk.elim
 rename_i zl hz;split at hk
 case h_2=>exact hk.elim
 rename_i hok;obtain⟨kt,hu,hd⟩:=Et hok;obtain⟨z1,_,_⟩:=nF (ro:=ro) (own:=own) hz;have hck: ∀b,(Instr.checkKey b 10000 k (a.eval key)).run P w= .ok () w:=fun b=>run_checkKey hu hd hkey b 9999
 split at hk
 . have hv:a.eval x= .map none:=Ol hx;refine aP h (v:= .bool false) ?_ (.ff _) hk;unfold execOp;have hfn:Instr.findNow kt (a.eval key) [] 0=some none:=rfl;simp [ho,Instr.lookup,hv,run_underlying hT,run_underlying hu,hck,Instr.findKey,hfn,z1 w,Sem.run_bind]
 . rename_i id;obtain⟨b,hb,hv⟩:=P7 hx;obtain⟨m,hm,hk⟩:=fG hk;split at hk
   case isFalse=>exact hk.elim
   rename_i hme;obtain⟨n,f,hsg,hk⟩: ∃n f,s (.sg id 0)= .s (.a n 2 f)/\(match yM f sk n 0 with
    |some none=>bm E.N o.dst .ff
    |some (some i)=>match f i with
     |[_,v]=>bm E.N o.dst v
     |_=> .fail
    |none=> .fail:Tx).ok s ws:=by
    simp only [Dx,Tx.ok]at hk;split at hk
    . rename_i x hx0;split at hk
      . exact⟨_,_,hx0,hk⟩
      . exact hk.elim
    . exact hk.elim
   obtain⟨b',o',g1,g2,g3,gnc,gob,gst⟩:=(h.mp.at_ id m n 2 f hm hme hsg).at_;rw [hb]at g1;simp at g1;subst g1;obtain⟨es,clk,rfl,g4,g5⟩:=Gd gob;have hget:(getObj b).run P w= .ok (.map es clk) w:=MapKept.run_getObj_map g3;have hn:es.toList.length=n:=by simpa using g4
   have hf:=fun r hr=>Ca hd hkey (f:=f) es.toList 0 r (by rw [hn];exact hr) (fun t e ht=>by
    obtain⟨k',v',q1,q2,q3⟩:=g5 t e (by simpa using ht);exact⟨k',v',by rw [Jg];exact q1,q2,q3⟩)
   split at hk
   . rename_i hfk;rcases hf _ hfk with⟨_,q⟩|⟨t,e,q,_⟩
     . refine aP h (v:= .bool false) ?_ (.ff _) hk;unfold execOp;simp [ho,Instr.lookup,hv,run_underlying hT,run_underlying hu,hck,hget,Instr.findKey,q,z1 w,Sem.run_bind]
     . cases q
   . rename_i i hfk;rcases hf _ hfk with⟨q,_⟩|⟨t,e,q1,q2,q3⟩
     . cases q
     . simp at q1;rw [Jg]at q3;subst q1;obtain⟨k',v',p1,p2,p3⟩:=g5 i e (by simpa using q2);rw [p1]at hk;refine aP h (v:=e.val) ?_ p3 hk;unfold execOp;simp [ho,Instr.lookup,hv,run_underlying hT,run_underlying hu,hck,hget,Instr.findKey,q3,Sem.run_bind]
   . exact hk.elim
 . exact hk.elim
theorem bA.MN (h:bA E ro own s w a) {id b n:Nat} {m:lZ} {f:Nat->List SV} {ob ob':Obj} {n' e':Nat} {f':Nat->List SV} {eo:Nat} (hm:s (.mt id)= .m (some m)) (hme:cz m=true) (hsg:s (.sg id 0)= .s (.a n eo f)) (hb:own.env id 0=some (some b)) (hB:E.B<=b) (hh:w.heap[b]?=some ob) (hnc0: ∀c t fr,ob≠ .cells c t fr) (hnc: ∀c t fr,ob'≠ .cells c t fr)
 (hnew:mD ro own ob' n' e' f'):
 bA E ro own (s.put (.sg id 0) (.s (.a n' e' f'))) {w with heap:=w.heap.setIfInBounds b ob'} a:=by
 have hlt:=(K3.1 hh).1;have hne: ∀k,k≠b->(w.heap.setIfInBounds b ob')[k]?=w.heap[k]?:=fun k hk=>by rw [Ya (Yv hk)]
 have hat:(w.heap.setIfInBounds b ob')[b]?=some ob':=by rw [Yi hlt]
 have hmt: ∀i,(s.put (.sg id 0) (.s (.a n' e' f'))) (.mt i)=s (.mt i):=fun i=>St.bh _ _ (by simp)
 have hsegs: ∀i mi,s (.mt i)= .m (some mi)->(s.put (.sg id 0) (.s (.a n' e' f'))).az i mi.ns=s.az i mi.ns:=fun i mi hi=>by
  by_cases e:i=id
  . subst e;rw [hm]at hi;simp at hi;subst hi;have:m.ns=0:=by simp [cz]at hme;exact hme.2
    rw [this];rfl
  . exact St.dc fun q _=>St.bh _ _ (by simp [e])
 refine {below:=h.below.trans ⟨rfl,rfl,rfl,by simp,fun k hk=>hne k (by omega)⟩,base:=by simpa using h.base,defs:=h.defs,size:=h.size,tm:=fun t sv ht=>h.tm t sv (by rw [St.bh _ _ (by simp)]at ht;exact ht),cJ:=fun b' o v hv=> ?_,ee:=h.ee,gK:=fun i mi hi=> ?_,fr:=fun i hi=>h.fr i (by rw [hmt]at hi;exact hi),mY:=fun i mi hi=>h.mY i mi (by rw [hmt]at hi;exact hi),inj:=fun i i' m1 m2 b' h1 h2=>h.inj i i' m1 m2 b' (by rw [hmt]at h1;exact h1) (by rw [hmt]at h2;exact h2),kk:=h.kk,mp:=⟨fun i mi n1 e1 f1 h1 h2 h3=> ?_,fun i i' m1 m2 b' n1 e1 f1 n2 e2 f2 h1 h2 h3 h4 q1 q2 h5 h6=> ?_⟩}
 . have:=h.cJ b' o v hv;have hb':b'≠b:=by
    rintro rfl;have:=this.1;simp only [World.cell?,hh]at this;cases ob<;>first|exact hnc0 _ _ _ rfl|simp at this
   exact this.of_heap (hne b' hb')
 . rw [hmt]at hi;rw [hsegs i mi hi];have he:=h.gK i mi hi;refine {st:=he.st,es:=he.es,row:=he.row,plain:=he.plain,there:=he.there,nil:=he.nil,live:=fun b' hb' hz=> ?_,dn:=he.dn};have hl:=he.live b' hb' hz;obtain⟨cs,e',lo,hi',r0,r⟩:=hl.body;have hb2:b'≠b:=by rintro rfl;rw [hh]at r0;simp at r0;exact hnc0 _ _ _ r0
   exact⟨hl.low,hl.apart,cs,e',lo,hi',(hne b' hb2).trans r0,r⟩
 . rw [hmt]at h1
   by_cases e:i=id
   . subst e;rw [St.cQ]at h3;simp only [Item.s.injEq,ar.a.injEq]at h3;obtain⟨rfl,rfl,rfl⟩:=h3;exact⟨b,ob',hb,hB,hat,hnc,hnew,(h.mp.at_ i m _ _ _ hm hme hsg).at_.choose_spec.choose_spec.2.2.2.2.2⟩
   . rw [St.bh _ _ (by simp [e])]at h3;obtain⟨b',o1,g1,g2,g3,g4,g5,g6⟩:=(h.mp.at_ i mi n1 e1 f1 h1 h2 h3).at_;have hb2:b'≠b:=by
      rintro rfl;exact e (h.mp.inj i id mi m b' _ _ _ _ _ _ h1 hm h2 hme h3 hsg g1 hb)
     exact⟨b',o1,g1,g2,(hne b' hb2).trans g3,g4,g5,g6⟩
 . rw [hmt]at h1 h2;have key: ∀j nj ej fj,(s.put (.sg id 0) (.s (.a n' e' f'))) (.sg j 0)= .s (.a nj ej fj)-> ∃nj ej fj,s (.sg j 0)= .s (.a nj ej fj):=fun j nj ej fj hj=>by
    by_cases e:j=id
    . subst e;exact⟨_,_,_,hsg⟩
    . rw [St.bh _ _ (by simp [e])]at hj;exact⟨_,_,_,hj⟩
   obtain⟨_,_,_,p1⟩:=key i _ _ _ q1;obtain⟨_,_,_,p2⟩:=key i' _ _ _ q2;exact h.mp.inj i i' m1 m2 b' _ _ _ _ _ _ h1 h2 h3 h4 p1 p2 h5 h6
theorem Ai (h:bA E ro own s w a) {o:Oper} {T:TypeId} {x key val:Operand} {sx sk sv:SV} (ho:o.op= .mapUpdate T x key val) (hx:Rel ro own sx (a.eval x)) (hkey:Rel ro own sk (a.eval key)) (hval:Rel ro own sv (a.eval val)) {ws} (hk:(qy P o.dst T sx sk sv).ok s ws):fW E P o s w a ws:=by
 unfold qy at hk;split at hk
 case h_2=>exact hk.elim
 rename_i k e id hd0 hT;split at hk
 case h_2=>exact hk.elim
 rename_i hok hagg;simp only [J2]at hok;obtain⟨kt,hu,hd⟩:=Et hok.1;have hck: ∀b,(Instr.checkKey b 10000 k (a.eval key)).run P w= .ok () w:=fun b=>run_checkKey hu hd hkey b 9999
 obtain⟨b,hb,hv⟩:=P7 hx;obtain⟨m,hm,hk⟩:=fG hk;split at hk
 case isFalse=>exact hk.elim
 rename_i hme;simp only [Dx,Tx.ok]at hk;split at hk
 case h_2=>exact hk.elim
 rename_i x0 hx0;split at hk
 case h_2=>exact hk.elim
 rename_i n f;split at hk
 case h_2=>exact hk.elim
 rename_i hfk;have hws:=hk.symm
 change ws=_ at hws
 subst hws;obtain⟨b',o',g1,g2,g3,gnc,gob,gst⟩:=(h.mp.at_ id m n 2 f hm hme hx0).at_;rw [hb]at g1;simp at g1;subst g1;obtain⟨es,clk,rfl,g4,g5⟩:=Gd gob;have hget:(getObj b).run P w= .ok (.map es clk) w:=MapKept.run_getObj_map g3;have hset: ∀o,(setObj b o).run P w= .ok () {w with heap:=w.heap.setIfInBounds b o}:=fun o=>MapKept.run_setObj_map o g3
 have hn:es.toList.length=n:=by simpa using g4
 have hf:=Ca hd hkey (f:=f) es.toList 0 none (by rw [hn];exact hfk) (fun t e ht=>by
  obtain⟨k',v',q1,q2,q3⟩:=g5 t e (by simpa using ht);exact⟨k',v',by rw [Jg];exact q1,q2,q3⟩)
 rcases hf with⟨_,q⟩|⟨t,e,q,_⟩
 case inr=>cases q
 intro Q;unfold Oper.wp;have hrun:(execOp a.eval o).run P w= .ok .skip {w with heap:=w.heap.setIfInBounds b (.map (es.push {key:=a.eval key,val:=a.eval val,born:=clk}) (clk+1))}:=by
  unfold execOp;simp [ho,Instr.mapUpdate,hv,run_underlying hT,run_underlying hu,hck,hget,hset,Instr.findKey,q,Sem.run_bind]
 rw [hrun];refine⟨ro,own,?_⟩;show bA E ro own (s.put (.sg id 0) (.s (.a (n+1) 2 fun j=>match Nat.beq j n with|true=>[sk,sv]|false=>f j))) _ _
 rw [hd0];refine h.MN (n':=n+1) (e':=2) (f':=fun j=>match Nat.beq j n with|true=>[sk,sv]|false=>f j) (ob':= .map (es.push {key:=a.eval key,val:=a.eval val,born:=clk}) (clk+1)) hm hme hx0 hb g2 g3 gnc (by simp) (.map _ _ _ _ (by rw [Array.size_push,g4]) fun i e hi=> ?_);rw [Qv]at hi;have g4':es.size=n:=g4
 by_cases e1:i=es.size
 . rw [if_pos e1]at hi;simp at hi;subst hi;refine⟨sk,sv,?_,hkey,hval⟩;have:i=n:=by omega
   subst this;simp
 . rw [if_neg e1]at hi;obtain⟨k',v',p1,p2,p3⟩:=g5 i e hi;refine⟨k',v',?_,p2,p3⟩;have:Nat.beq i n=false:=by
    cases hb:Nat.beq i n with
    |false=>rfl
    |true=>have:=Jd hb;omega
   simp only [this];exact p1
theorem WZ (h:bA E ro own s w a) {o:Oper} {nid:Nat} {T:TypeId} {x:Operand} {sx:SV} (ho:o.op= .range T x) (hx:Rel ro own sx (a.eval x)) {ws} (hk:(Cx P E.N nid o.dst T sx).ok s ws):fW E P o s w a ws:=by
 unfold Cx at hk;split at hk
 case h_2=>exact hk.elim
 rename_i l d hT hd;split at hk
 case isFalse=>exact hk.elim
 rename_i hdN;obtain⟨hf,hk⟩:=kC hk;have hws:=hk.symm
 change ws=_ at hws
 subst hws;have hv:a.eval x= .string ⟨l.toArray⟩:=dR hx;intro Q;unfold Oper.wp;have hrun:(execOp a.eval o).run P w= .ok (.value (.pointer (some ⟨w.heap.size,0,none⟩))) (w.alloc (.stringIter ⟨l.toArray⟩ 0)):=by
  unfold execOp;simp [ho,hv,Instr.range,run_underlying hT]
 rw [hrun];have hj:=h.WY (.stringIter ⟨l.toArray⟩ 0);have hb:(w.alloc (.stringIter ⟨l.toArray⟩ 0)).heap[w.heap.size]?=some (.stringIter ⟨l.toArray⟩ 0):=by unfold World.alloc;simp only;rw [Qv,if_pos rfl]
 obtain⟨own',hle,e1,e2,hs⟩:=hj.Ow (n0:=1) (e0:=3) (g0:=fun _=>[.str l, .int .i64 0]) hf (b:=w.heap.size) h.base hb (by simp) (.iter l 0 1 _ ⟨_,_,rfl, .str _ _, .int _ _ _⟩ rfl) (fun id m n e f h1 h2 h3 h4=>by have:=h.map_lt h1 h2 h3 h4;omega);show dL E _ _ (a.put o.dst _)
 rw [hd];refine⟨ro,own',?_⟩;show bA E ro own' ((s.apply [(.mt nid, .m (some gd)),(.sg nid 0, .s (.a 1 3 fun _=>[.str l, .int .i64 0]))]).put (.tm d) (.v (.ptr nid 0))) _ _
 refine hs.put hdN ?_;have:=Rel.ptr (ro:=ro) own' nid 0 _ e1;rw [e2]at this;exact this
theorem LD {id q:Nat} {v:Value} (h:Rel ro own (.ptr id q) v): ∃b,own.env id 0=some (some b)/\v= .pointer (some ⟨b,own.st id q,none⟩):=by cases h;exact⟨_,by assumption,rfl⟩
theorem M8 (h:bA E ro own s w a) {o:Oper} {x:Operand} {sx:SV} (ho:o.op= .next x true) (hx:Rel ro own sx (a.eval x)) {ws} (hk:(Hh E.N o.dst sx).ok s ws):fW E P o s w a ws:=by
 unfold Hh at hk;split at hk
 case h_2=>exact hk.elim
 rename_i id;obtain⟨m,hm,hk⟩:=fG hk;split at hk
 case isFalse=>exact hk.elim
 rename_i hme;simp only [Dx,Tx.ok]at hk;split at hk
 case h_2=>exact hk.elim
 rename_i x0 hx0;split at hk
 case h_2=>exact hk.elim
 rename_i f;split at hk
 case h_2=>exact hk.elim
 rename_i l pos hf0;split at hk
 case h_2=>exact hk.elim
 rename_i d hd;split at hk
 case isFalse=>exact hk.elim
 rename_i hdN;obtain⟨b,hb,hv⟩:=LD hx;obtain⟨b',o',g1,g2,g3,gnc,gob,gst⟩:=(h.mp.at_ id m 1 3 f hm hme hx0).at_;rw [hb]at g1;simp at g1;subst g1;obtain⟨l',posq,rfl,k',v',q1,q2,q3⟩:=P6 gob;rw [hf0]at q1;simp only [Qw,and_true]at q1;obtain⟨rfl,rfl⟩:=q1;have hl:=dR q2;have hp:=aK q3;simp at hl hp;subst hl;have hp:posq=pos:=by omega
 subst hp;rw [gst]at hv;have hget:(getObj b).run P w= .ok (.stringIter ⟨l'.toArray⟩ posq) w:=by simp [getObj,Sem.run,g3]
 have hset: ∀o,(setObj b o).run P w= .ok () {w with heap:=w.heap.setIfInBounds b o}:=fun o=>by simp [setObj,Sem.run,g3]
 have hsz:(⟨l'.toArray⟩:ByteArray).size=l'.length:=by simp [ByteArray.size]
 split at hk
 . rename_i c hc;split at hk
   case h_2=>exact hk.elim
   rename_i hlt;have hws:=hk.symm
   change ws=_ at hws
   subst hws;have hpl:posq<l'.length:=(Jb.1 hc).1;have hps:posq<(⟨l'.toArray⟩:ByteArray).size:=by rw [hsz];exact hpl
   have hce:(⟨l'.toArray⟩:ByteArray)[posq]'hps=c:=by
    have:=(Jb.1 hc).2;rw [<-this];rfl
   have hlt':c.toNat<128:=Qk hlt;have hdec:=decode_ascii (⟨l'.toArray⟩:ByteArray) posq hps (by rw [hce];exact hlt');rw [hce]at hdec;intro Q;unfold Oper.wp;have hrun:(execOp a.eval o).run P w= .ok (.value (.tuple #[.bool true, .int .i64 posq, .int .i32 c.toNat])) {w with heap:=w.heap.setIfInBounds b (.stringIter ⟨l'.toArray⟩ (posq+1))}:=by
    unfold execOp;simp [ho,hv,Instr.next,hget,hset,hps,hdec,goInt,Sem.run_bind]
   rw [hrun];show dL E _ _ (a.put o.dst _)
   rw [hd];refine⟨ro,own,?_⟩;show bA E ro own ((s.put (.sg id 0) (.s (.a 1 3 fun _=>[.str l', .int .i64 ((posq+1:Nat):Int)]))).put (.tm d) (.v (.bp [.tt, .int .i64 (posq:Int), .int .i32 (c.toNat:Int)]))) _ _
   refine(h.MN (ob':= .stringIter ⟨l'.toArray⟩ (posq+1)) hm hme hx0 hb g2 g3 gnc (by simp) (.iter l' (posq+1) 1 _ ⟨_,_,rfl, .str _ _, .int _ _ _⟩ rfl)).put hdN ?_;refine .bp _ _ _ rfl fun i sv hi=> ?_
   match i,hi with
   |0,hi=>simp at hi;subst hi;exact .tt _
   |1,hi=>simp at hi;subst hi;exact .int _ _ _
   |2,hi=>simp at hi;subst hi;exact .int _ _ _
   |i+3,hi=>simp at hi
 . rename_i hc;have hws:=hk.symm
   change ws=_ at hws
   subst hws;have hps: ¬posq<(⟨l'.toArray⟩:ByteArray).size:=by rw [hsz];have:=List.getElem?_eq_none_iff.1 hc;omega
   intro Q;unfold Oper.wp;have hrun:(execOp a.eval o).run P w= .ok (.value (.tuple #[.bool false])) w:=by
    unfold execOp;simp [ho,hv,Instr.next,hget,hps,Sem.run_bind]
   rw [hrun];show dL E _ _ (a.put o.dst _)
   rw [hd];refine⟨ro,own,?_⟩;show bA E ro own (s.put (.tm d) (.v (.bp [.ff]))) _ _
   refine h.put hdN ?_;refine .bp _ _ _ rfl fun i sv hi=> ?_
   match i,hi with
   |0,hi=>simp at hi;subst hi;exact .ff _
   |i+1,hi=>simp at hi
theorem RQ (h:bA E ro own s w a) {o:Oper} {op:BinOp} {T U:TypeId} {x y:Operand} {sx:SV} (ho:o.op= .binOp op T x y U) (hy:HO y=true) (hT:HX P T=true) (hx:Rel ro own sx (a.eval x)) {ws} (hk:(IE E.N o.dst op sx).ok s ws):fW E P o s w a ws:=by
 have hyv:a.eval y= .slice none 0 0:=by
  unfold HO at hy;split at hy
  . rfl
  . cases hy
 obtain⟨e,hu⟩: ∃e,P.underlying T=some (.slice e):=by
  unfold HX at hT;split at hT
  . exact⟨_,by assumption⟩
  . cases hT
 obtain⟨b,hb,hv⟩: ∃b,Rt sx=some b/\((b=true/\a.eval x= .slice none 0 0)\/b=false/\ ∃A n c,a.eval x= .slice (some A) n c):=by
  unfold IE at hk;split at hk
  . rename_i b hb;refine⟨b,hb,?_⟩;unfold Rt at hb;split at hb
    . simp at hb;exact .inl ⟨hb,gh hx⟩
    . simp at hb;obtain⟨A,hA⟩:=nR hx;exact .inr ⟨hb,A,0,0,hA⟩
    . simp at hb;rcases fH hx with⟨b',_,_,hv⟩|⟨_,hl,_,_⟩
      . exact .inr ⟨hb,_,_,_,hv⟩
      . omega
    . simp at hb;rcases dE hx with⟨hl,_⟩|⟨b',k0,cap,vs,hv,_⟩
      . omega
      . exact .inr ⟨hb,_,_,_,hv⟩
    . cases hb
  . rename_i b hb;refine⟨b,hb,?_⟩;unfold Rt at hb;split at hb
    . simp at hb;exact .inl ⟨hb,gh hx⟩
    . simp at hb;obtain⟨A,hA⟩:=nR hx;exact .inr ⟨hb,A,0,0,hA⟩
    . simp at hb;rcases fH hx with⟨b',_,_,hv⟩|⟨_,hl,_,_⟩
      . exact .inr ⟨hb,_,_,_,hv⟩
      . omega
    . simp at hb;rcases dE hx with⟨hl,_⟩|⟨b',k0,cap,vs,hv,_⟩
      . omega
      . exact .inr ⟨hb,_,_,_,hv⟩
    . cases hb
  . exact hk.elim
 have hg:(eqGuard op T x y (a.eval x) (a.eval y)).run P w= .ok () w:=by
  rw [hyv];rcases hv with⟨_,hv⟩|⟨_,A,n,c,hv⟩<;>rw [hv]<;>exact fu rfl (by simp)
 have heq:(Op.equal T (a.eval x) (a.eval y)).run P w= .ok b w:=by
  rw [hyv];rcases hv with⟨rfl,hv⟩|⟨rfl,A,n,c,hv⟩<;>rw [hv]
  . show(Op.equalIn (9999+1) T _ _).run P w=_
    rw [Op.equalIn];simp only [Sem.run_bind,run_underlying hu,Result.andThen_ok];rfl
  . show(Op.equalIn (9999+1) T _ _).run P w=_
    rw [Op.equalIn];simp only [Sem.run_bind,run_underlying hu,Result.andThen_ok];rfl
 have hbin: ∀{r:Value},(op= .eql/\r= .bool b)\/(op= .neq/\r= .bool (!b))->(binOp op T (a.eval x) (a.eval y)).run P w= .ok r w:=by
  intro r hr;rw [hyv]at heq⊢;rcases hv with⟨_,hv⟩|⟨_,A,n,c,hv⟩<;>rw [hv]at heq⊢ <;>rcases hr with⟨rfl,rfl⟩|⟨rfl,rfl⟩<;>simp [binOp,heq]
 unfold IE at hk;rw [hb]at hk;split at hk
 . rename_i b' hb';simp at hb';subst hb';refine aP h (v:= .bool b) ?_ (.bool _ _) hk;unfold execOp;simp [ho,hg,hbin (.inl ⟨rfl,rfl⟩)]
 . rename_i b' hb';simp at hb';subst hb';refine aP h (v:= .bool (!b)) ?_ (.bool _ _) hk;unfold execOp;simp [ho,hg,hbin (.inr ⟨rfl,rfl⟩)]
 . exact hk.elim
theorem Ey (h:bA E ro own s w a) {o:Oper} {x:Operand} {sx:SV} (ho:o.op= .nilCheck x) (hx:Rel ro own sx (a.eval x)) {ws} (hk:(tf E.N o.dst sx).ok s ws):fW E P o s w a ws:=by
 unfold tf at hk;split at hk
 . refine aP h (v:=a.eval x) ?_ hx hk;obtain⟨b,_,hv⟩:=rq hx;unfold execOp;simp [ho,hv]
 . refine aP h (v:=a.eval x) ?_ hx hk;obtain⟨b,_,hv⟩:=tI hx;unfold execOp;simp [ho,hv]
 . refine aP h (v:=a.eval x) ?_ hx hk;obtain⟨b,k0,vs,hv,_⟩:=wT hx;unfold execOp;simp [ho,hv]
 . refine aP h (v:=a.eval x) ?_ hx hk;obtain⟨va,vb,hv,_⟩:=Hc hx;unfold execOp;simp [ho,hv]
 . exact hk.elim
theorem M9 {dst:Option Tmp} {T:TypeId} {ws} (hk:(AM P E.N dst T).ok s ws): ∃e i zv,P.underlying T=some (.slice e)/\P.info? e=some i/\0<i.size/\(∀w:World,(zeroValue e).run P w= .ok zv w)/\zv.cells.size=i.size/\(bm E.N dst .emp).ok s ws:=by
 unfold AM at hk;split at hk
 case h_2=>exact hk.elim
 rename_i e hT;split at hk
 case h_2=>exact hk.elim
 rename_i z i hz hi;split at hk
 case isFalse=>exact hk.elim
 rename_i hc;obtain⟨zv,z1,z2,_⟩:=gl (ro:=fun _ _=>none) (own:=Own.empty) hz;exact⟨e,i,zv,hT,hi,hc.2,z1,by rw [z2,hc.1],hk⟩
theorem EM (h:bA E ro own s w a) {o:Oper} {v:Value} {b:Obj} {ws} {x:SV} (hrun:(execOp a.eval o).run P w= .ok (.value v) (w.alloc b)) (hr:Rel ro own x v) (hk:(bm E.N o.dst x).ok s ws):fW E P o s w a ws:=by
 intro Q;unfold Oper.wp;rw [hrun];exact⟨ro,own,Gc (h.WY b) hk hr⟩
theorem D1 (h:bA E ro own s w a) {o:Oper} {T:TypeId} {l c:Operand} (ho:o.op= .makeSlice T l c) (hl:a.eval l= .int .i64 0) (hc:a.eval c= .int .i64 0) {ws} (hk:(AM P E.N o.dst T).ok s ws):fW E P o s w a ws:=by
 obtain⟨e,i,zv,hT,hi,hp,z1,z2,hk⟩:=M9 hk;have hzi:i.zero=some zv:=by
  have:=z1 w;simp only [zeroValue,Sem.run_bind,qF hi,Result.andThen_ok]at this;cases hq:i.zero with
  |none=>rw [hq]at this;simp at this
  |some q=>rw [hq]at this;simp at this;rw [this]
 have hrun:=run_make (P:=P) w T e i zv hT hi hzi .i64 .i64 0 0 (by omega) (by omega) (by omega) (by omega);refine EM h (v:= .slice (some ⟨w.heap.size,0,none⟩) 0 0) (b:= .cells (madeCells zv.cells (0*i.size)) e) ?_ (.emp _ _) hk;unfold execOp;rw [ho];simp only [hl,hc,Sem.run_bind];have hrun':=hrun;simp only [Ql]at hrun';rw [hrun'];rfl
theorem BV (h:bA E ro own s w a) {o:Oper} {T:TypeId} {parts:Array (Nat×Operand)} (ho:o.op= .buildSlice T 0 parts) (hp0:parts= #[]) {ws} (hk:(AM P E.N o.dst T).ok s ws):fW E P o s w a ws:=by
 obtain⟨e,i,zv,hT,hi,hp,z1,z2,hk⟩:=M9 hk;refine EM h (v:= .slice (some ⟨w.heap.size,0,none⟩) 0 0) (b:= .cells #[] e) ?_ (.emp _ _) hk;unfold execOp;have hs:(sizeOf e).run P w= .ok i.size w:=by simp [sizeOf,typeInfo,hi]
 have hr0: ∀g:Nat->Value,Array.map g (Array.range 0)= #[]:=fun g=>Array.eq_empty_of_size_eq_zero (by simp)
 simp [ho,hp0,Instr.buildSlice,run_underlying hT,hs,newRow,Instr.fill,hr0]
theorem pz {T:TypeId} (h:oU P T=true): ∃e es,P.underlying T=some (.slice e)/\cw P e=some es:=by
 unfold oU at h;split at h
 . rename_i e hu;obtain⟨es,hes⟩:=Qi.1 h;exact⟨e,es,hu,hes⟩
 . cases h
theorem GH (h:bA E ro own s w a) {o:Oper} {T:TypeId} {x:Operand} {lo hi:Option Operand} {sx:SV} {lo' hi':Option SV} {l u:Int} {other:Tx} (ho:o.op= .slice T x lo hi none) (hT:oU P T=true) (hx:Rel ro own sx (a.eval x))
 (hl0:lo'=none↔lo=none) (hl1: ∀y o',lo'=some y->lo=some o'->Rel ro own y (a.eval o')) (hh0:hi'=none↔hi=none) (hh1: ∀y o',hi'=some y->hi=some o'->Rel ro own y (a.eval o'))
 (hlo:Dc lo'=some l) (hhi:CW (Ue sx) hi'=some u) {ws} (hk:(yN P E.N o.dst T sx l u other).ok s ws) (hoth:other.ok s ws->fW E P o s w a ws):fW E P o s w a ws:=by
 obtain⟨e,es,hu,hes⟩:=pz hT;have bounds: ∀{len cap:Nat},len=Ue sx->0<=l->l<=u->u<=(len:Int)->len<=cap->(Instr.sliceBounds true len cap (lo.map a.eval) (hi.map a.eval) none).run P w= .ok (l.toNat,u.toNat,cap) w:=by
  intro len cap e1 h1 h2 h3 h4;refine oQ (ro:=ro) (own:=own) hlo (by rw [e1];exact hhi) (fun y hy=> ?_) (fun e=>by rw [hl0.1 e];rfl) (fun y hy=> ?_) (fun e=>by rw [hh0.1 e];rfl) h1 h2 h3 h4
  . cases lo with
    |none=>rw [hl0.2 rfl]at hy;cases hy
    |some o'=>exact⟨_,rfl,hl1 y o' hy rfl⟩
  . cases hi with
    |none=>rw [hh0.2 rfl]at hy;cases hy
    |some o'=>exact⟨_,rfl,hh1 y o' hy rfl⟩
 have go: ∀{v:Value} {z:SV},(Instr.sliceAt T (a.eval x) (lo.map a.eval) (hi.map a.eval) none).run P w= .ok v w->Rel ro own z v->(bm E.N o.dst z).ok s ws->fW E P o s w a ws:=by
  intro v z hrun hr hk;refine aP h (v:=v) ?_ hr hk;unfold execOp;simp [ho,hrun]
 unfold yN at hk;split at hk
 . split at hk
   case isFalse=>exact hk.elim
   rename_i hc;obtain⟨rfl,rfl⟩:=hc;have hb:=bounds (len:=0) (cap:=0) rfl (by omega) (by omega) (by simp) (by omega);rw [gh hx]at go;refine go (v:= .slice none 0 0) ?_ (.aq _) hk;simp [Instr.sliceAt,run_underlying hu,Instr.slice,hb,aS hes]
 . split at hk
   case isFalse=>exact hk.elim
   rename_i hc;obtain⟨rfl,rfl⟩:=hc;have hb:=bounds (len:=0) (cap:=0) rfl (by omega) (by omega) (by simp) (by omega);obtain⟨A,hA⟩:=nR hx;rw [hA]at go;refine go (v:= .slice (some A) 0 0) ?_ (.emp _ _) hk;simp [Instr.sliceAt,run_underlying hu,Instr.slice,hb,aS hes]
 . rename_i id aD off len;split at hk
   case isFalse=>exact hoth hk
   rename_i hc;obtain⟨rfl,h1,h2⟩:=hc;rcases fH hx with⟨b,hb,hcap,hv⟩|⟨hb,hl,ho0,hv⟩
   . have hbb:=bounds (len:=len) (cap:=own.cap id aD-off) rfl h1 (by omega) h2 (by omega);rw [hv]at go;split at hk
     . rename_i hl0';subst hl0';refine go (v:= .slice (some ⟨b,off*own.es id 0,none⟩) 0 (own.cap id aD-off)) ?_ ?_ hk
       . simp [Instr.sliceAt,run_underlying hu,Instr.slice,hbb,aS hes,dU]
       . exact .sl _ _ _ _ _ _ hb (by omega)
     . refine go (v:= .slice (if own.cap id aD-off=l.toNat then some ⟨b,off*own.es id 0,none⟩else some ⟨b,off*own.es id 0+l.toNat*es,none⟩) 0 (own.cap id aD-off-l.toNat)) ?_ (.fe _ _ _ _ _ _ rfl) hk;simp [Instr.sliceAt,run_underlying hu,Instr.slice,hbb,aS hes,dU]
   . subst hl;have hl0':l=0:=by omega
     subst hl0';have hbb:=bounds (len:=0) (cap:=0) rfl (by omega) (by omega) (by simp) (by omega);rw [hv]at go;rw [if_pos rfl]at hk;refine go (v:= .slice none 0 0) ?_ (.Es _ _ _ _ _ hb rfl ho0) hk;simp [Instr.sliceAt,run_underlying hu,Instr.slice,hbb,aS hes]
 . exact hoth hk
theorem wm {len cap:Nat} {h:Int} {k k':IntKind} (h0:0<=h) (h1:h<=(cap:Int)):(Instr.sliceBounds true len cap none (some (.int k h)) (some (.int k' h))).run P w= .ok (0,h.toNat,h.toNat) w:=by
 have e1:=run_sliceBound (P:=P) (w:=w) (x:= .int k' h) (y:=cap) (code:= .slice3Acap) rfl h0 h1;have e2:=run_sliceBound (P:=P) (w:=w) (x:= .int k h) (y:=h.toNat) (code:= .slice3B) rfl h0 (by omega);simp [Instr.sliceBounds,e1,e2]
theorem GZ (h:bA E ro own s w a) {o:Oper} {T:TypeId} {x hi mx:Operand} {sx:SV} {k k':IntKind} {u m':Int} (ho:o.op= .slice T x none (some hi) (some mx)) (hT:oU P T=true) (hx:Rel ro own sx (a.eval x))
 (hhi:a.eval hi= .int k u) (hmx:a.eval mx= .int k' m') {ws} (hk:(Cl E.N o.dst sx u m').ok s ws):fW E P o s w a ws:=by
 obtain⟨e,es,hu,hes⟩:=pz hT;unfold Cl at hk;split at hk
 . rename_i id aD off len;split at hk
   case isFalse=>exact hk.elim
   rename_i hc;obtain⟨rfl,h0,h1⟩:=hc;have run: ∀{A:Option Addr} {n cap:Nat},a.eval x= .slice A n cap->u<=(cap:Int)->(execOp a.eval o).run P w= .ok (.value (.slice A u.toNat u.toNat)) w:=by
    intro A n cap hv hcp;have hb:=wm (P:=P) (w:=w) (len:=n) (k:=k) (k':=k') h0 hcp;unfold execOp;simp [ho,Instr.sliceAt,run_underlying hu,Instr.slice,hv,hhi,hmx,hb,aS hes];intro hne;cases A<;>simp [Addr.add]
   have hx0: ∃v0,Rel ro own (.sl id aD off u.toNat) v0/\ ∃A n cap c0,v0= .slice A u.toNat c0/\a.eval x= .slice A n cap/\u<=(cap:Int):=by
    rcases fH hx with⟨b,hb,hcap,hv⟩|⟨hb,hl,ho0,hv⟩
    . exact⟨_, .sl _ _ _ _ _ _ hb (by omega),_,_,_,_,rfl,hv,by omega⟩
    . have hu0:u.toNat=0:=by omega
      rw [hu0];exact⟨_, .Es _ _ _ _ _ hb rfl ho0,_,_,_,_,rfl,hv,by omega⟩
   obtain⟨v0,hr0,A,n,cap,c0,hv0,hv,hcp⟩:=hx0;obtain⟨xs',ws',ro2,hk2,hle,hs,hr⟩:=iw (s:=s) (xs:=[.sl id aD off u.toNat]) (vals:=[v0]) ⟨fun _ _=>rfl,fun _=> .inl rfl⟩ h ⟨hr0,trivial⟩ hk;clear hk;split at hk2
   case h_2=>exact hk2.elim
   rename_i e' n' f;obtain⟨ws0,q1,q2⟩:=Tx.uB hk2;have hws:ws=ws'++ws0:=q2.symm;subst hws;have hr2:Rel ro2 own (.aI e' n' f) (.slice A u.toNat u.toNat):=by
    have hr1:=hr.1;rw [hv0]at hr1;rcases dE hr1 with⟨hl,A',cap',hv'⟩|⟨b,k0,cap',vs,hv',hcap',hl,hm,hh⟩
    . injection hv' with q1 q q3
      subst q1;rw [q];exact .fe _ _ _ _ _ _ hl
    . injection hv' with q1 q q3
      subst q1;rw [q];exact .aI _ _ _ _ _ _ _ vs (J1 _) hl hm hh
   intro Q;unfold Oper.wp;rw [run hv hcp];show dL E _ _ (a.put o.dst _)
   rw [aM];rcases JE q1 with⟨hd,rfl⟩|⟨d,hd,hdN,rfl⟩
   . rw [hd];exact⟨ro2,own,hs⟩
   . rw [hd];exact⟨ro2,own,hs.put hdN hr2⟩
 . rename_i es' len f;split at hk
   case isFalse=>exact hk.elim
   rename_i hc;obtain⟨rfl,h0,h1⟩:=hc;have run: ∀{A:Option Addr} {n cap:Nat},a.eval x= .slice A n cap->u<=(cap:Int)->(execOp a.eval o).run P w= .ok (.value (.slice A u.toNat u.toNat)) w:=by
    intro A n cap hv hcp;have hb:=wm (P:=P) (w:=w) (len:=n) (k:=k) (k':=k') h0 hcp;unfold execOp;simp [ho,Instr.sliceAt,run_underlying hu,Instr.slice,hv,hhi,hmx,hb,aS hes];intro hne;cases A<;>simp [Addr.add]
   rcases dE hx with⟨hl,A',cap',hv'⟩|⟨b,k0,cap',vs,hv',hcap',hl,hm,hh⟩
   . have hu0:u.toNat=0:=by omega
     refine aP h (run hv' (by omega)) ?_ hk;rw [hu0];exact .fe _ _ _ _ _ _ rfl
   . refine aP h (run hv' (by omega)) ?_ hk;exact .aI _ _ _ _ _ _ _ vs (J1 _) (fun i hi=>hl i (by omega)) (fun k hk=>hm k (Qf hk (Jl _ (by omega)))) (fun i j sv hi hj=>hh i j sv (by omega) hj)
 . exact hk.elim
theorem KP {x:SV} {v:Value} (hs:isSlice x=true) (h:Rel ro own x v): ∃A n c,v= .slice A n c/\n<=c:=by
 unfold isSlice at hs;split at hs
 . exact⟨_,_,_,gh h,J1 _⟩
 . obtain⟨A,hA⟩:=nR h;exact⟨_,_,_,hA,J1 _⟩
 . rcases dE h with⟨hl,A',cap',hv'⟩|⟨b,k0,cap',vs,hv',hcap',_⟩
   . exact⟨_,_,_,hv',X0 _⟩
   . exact⟨_,_,_,hv',hcap'⟩
 . rcases fH h with⟨b,hb,hcap,hv⟩|⟨hb,hl,ho0,hv⟩
   . exact⟨_,_,_,hv,by omega⟩
   . exact⟨_,_,_,hv,J1 _⟩
 . cases hs
theorem qV {x:SV} {v:Value} (hs:isEmpty x=true) (h:Rel ro own x v): ∃A c,v= .slice A 0 c:=by
 unfold isEmpty at hs;split at hs
 . exact⟨_,_,gh h⟩
 . obtain⟨A,hA⟩:=nR h;exact⟨_,_,hA⟩
 . rcases dE h with⟨hl,A',cap',hv'⟩|⟨b,k0,cap',vs,hv',hcap',_⟩
   . exact⟨_,_,hv'⟩
   . exact⟨_,_,hv'⟩
 . rcases fH h with⟨b,hb,hcap,hv⟩|⟨hb,hl,ho0,hv⟩
   . exact⟨_,_,hv⟩
   . exact⟨_,_,hv⟩
 . cases hs
theorem ET (h:bA E ro own s w a) {o:Oper} {c:Call} {T:TypeId} {x y:SV} {vx vy:Value} (ho:o.op= .call c) (hc:c.callee= .builtin .append) (hTy:c.argTypes= #[T,T]) (hargs:c.args.map a.eval= #[vx,vy]) (hT:oU P T=true)
 (hx:Rel ro own x vx) (hy:Rel ro own y vy) (hxs:isSlice x=true) (hye:isEmpty y=true) {ws} (hk:(bm E.N o.dst x).ok s ws):fW E P o s w a ws:=by
 obtain⟨e,es,hu,hes⟩:=pz hT;obtain⟨A,n,cp,hvx,hn⟩:=KP hxs hx;obtain⟨A',c',hvy⟩:=qV hye hy;refine aP h (v:=vx) ?_ hx hk;rw [aT ho hc,hTy,hargs,hvx,hvy];have hfc:(Builtin.firstCells es 0 (.slice A' 0 c')).run P w= .ok #[] w:=by
  cases A' with
  |none=>simp [Builtin.firstCells]
  |some ad=>
   have:=run_loadCells_list (P:=P) w ad [] (by simp);simpa [Builtin.firstCells]using this
 have hst: ∀ad:Addr,(storeCells ad ([]:List Value)).run P w= .ok () w:=fun ad=>by simp [storeCells]
 cases A<;>simp [builtin,Builtin.append_,run_underlying hu,aS hes,Builtin.lenOf,hn,hfc,hst]
end
end Go.Sx
namespace Go.Sx
open Go Go.RowKit
variable [bW]
section
variable {E : Env} {P : Program} {ro : RO} {own : Own} {s : St} {w : World} {a : Act}
theorem PN {o o':Oper} (hd:o.dst=o'.dst) {K:Act->World->Prop} {Q:Exit->Act->World->Prop} (r:Result Next):o.upon P a K Q r=o'.upon P a K Q r:=by
 cases r with
 |ok n w'=>cases n<;>simp only [Oper.upon,hd]
 |halt x w'=>cases x<;>simp only [Oper.upon,hd]
theorem PG {o o':Oper} {ws} (hd:o.dst=o'.dst) (hr:(execOp a.eval o).run P w=(execOp a.eval o').run P w) (h:fW E P o' s w a ws):fW E P o s w a ws:=by
 intro Q;have:=h Q;unfold Oper.wp at this⊢;rw [hr,PN hd];exact this
theorem Ht {T ty e:TypeId} {i:TypeInfo} {A:Addr} {B:Option Addr} {k c:Nat} (hu:P.underlying T=some (.slice e)) (hi:P.info? e=some i) (hk:1<=k) (hb:k*i.bytes<=140737488355328):
 (Builtin.append_ #[T,T] ty #[.slice (some A) 0 0, .slice B k c]).run P w=(Builtin.append_ #[T,T] ty #[.slice none 0 0, .slice B k c]).run P w:=by
 have hl: ∀(w':World) (ad:Addr),(loadCells ad 0).run P w'= .ok #[] w':=fun w' ad=>by
  have:=run_loadCells_list (P:=P) w' ad [] (by simp);simpa using this
 have hs: ∀w':World,(sizeOf e).run P w'= .ok i.size w':=fun w'=>by simp [sizeOf,typeInfo,hi]
 have ht: ∀w':World,(typeInfo e).run P w'= .ok i w':=fun w'=>by simp [typeInfo,hi]
 have hk0: ¬k=0:=by omega
 have hn:Builtin.nextslicecap k 0=k:=by
  unfold Builtin.nextslicecap;rw [if_pos (by omega)]
 have h48: ¬(281474976710656<k*i.bytes):=by omega
 simp [Builtin.append_,run_underlying hu,hs,ht,Builtin.lenOf,hk0,hn,h48,Builtin.firstCells,hl]
theorem Aq (h:bA E ro own s w a) {o:Oper} {c:Call} {nid:Nat} {T:TypeId} {x y:SV} {vx vy:Value} (ho:o.op= .call c) (hc:c.callee= .builtin .append) (hTy:c.argTypes= #[T,T]) (hargs:c.args.map a.eval= #[vx,vy])
 (hx:FD x=true) (hxr:Rel ro own x vx) (hy:Rel ro own y vy) (hne: ∃B k cc,vy= .slice B k cc/\1<=k) {ws} (hk:(kY P E.N nid o.dst T .aq y).ok s ws):fW E P o s w a ws:=by
 have hx':x= .emp:=by
  unfold FD at hx;split at hx
  . rfl
  . cases hx
 subst hx';obtain⟨A,rfl⟩:=nR hxr;obtain⟨B,k,cc,rfl,hk1⟩:=hne;have hlist:c.args.toList.map a.eval=[.slice (some A) 0 0, .slice B k cc]:=by rw [<-Array.toList_map,hargs]
 obtain⟨ax,ay,hca⟩: ∃ax ay,c.args= #[ax,ay]:=by
  have hlen:c.args.toList.length=2:=by have:=congrArg List.length hlist;simpa using this
  match hq:c.args.toList,hlen with
  |[ax,ay],_=>exact⟨ax,ay,by rw [<-Array.toList_inj];simpa using hq⟩
 let c':Call:={c with args:= #[.const (.slice none 0 0),ay]}
 let o':Oper:={o with op:= .call c'}
 have hay:a.eval ay= .slice B k cc:=by
  rw [hca]at hlist;simp at hlist;exact hlist.2
 have hargs':c'.args.map a.eval= #[.slice none 0 0, .slice B k cc]:=by
  have h1:a.eval (.const (.slice none 0 0))= .slice none 0 0:=rfl;simp only [c',List.map_toArray,J8,Z2,h1,hay]
 have hsnd:fW E P o' s w a ws:=zT (o:=o') (c:=c') h rfl hc hTy hargs' (.aq _) hy hk;have hb: ∃e i,P.underlying T=some (.slice e)/\P.info? e=some i/\k*i.bytes<=140737488355328:=by
  unfold kY at hk;split at hk
  case h_2=>exact hk.elim
  rename_i e hu;split at hk
  case h_2=>exact hk.elim
  rename_i z i d hz hi hd;split at hk
  case isFalse=>exact hk.elim
  obtain⟨k',g,hk2,hsrc⟩:=pJ h hy hk;obtain⟨_,hk3⟩:=hk2;have hkk:k'=k:=by
   rcases hsrc with⟨rfl,A',c',hv⟩|⟨b,off,c',hv,_⟩
   . simp at hv;omega
   . simp at hv;exact hv.2.1.symm
  subst hkk;refine⟨e,i,hu,hi,?_⟩;unfold tG at hk3;exact hk3.1.2
 obtain⟨e,i,hu,hi,hb⟩:=hb;refine PG (o':=o') rfl ?_ hsnd;rw [aT ho hc,aT (o:=o') (c:=c') rfl hc,hTy,hargs,hargs'];simp only [builtin,Sem.run_bind];rw [Ht hu hi hk1 hb]
theorem KJ (h:bA E ro own s w a) {o:Oper} {c:Call} {x:SV} {vx:Value} {T:TypeId} (ho:o.op= .call c) (hc:c.callee= .builtin .clear) (hTy:c.argTypes= #[T]) (hargs:c.args.map a.eval= #[vx]) (hT:oU P T=true) (hx:Rel ro own x vx) {ws} (hk:(CR o.dst x).ok s ws):fW E P o s w a ws:=by
 obtain⟨e,es,hu,hes⟩:=pz hT;have key:o.dst=none/\ws=[]/\ ∃A c,vx= .slice A 0 c:=by
  unfold CR at hk;split at hk
  . rename_i hd;refine⟨hd,hk.symm,?_⟩;exact qV (x:= .aI _ 0 _) rfl hx
  . rename_i hd;exact⟨hd,hk.symm,qV (x:= .aq) rfl hx⟩
  . rename_i hd;exact⟨hd,hk.symm,qV (x:= .emp) rfl hx⟩
  . exact hk.elim
 obtain⟨hd,rfl,A,cc,rfl⟩:=key;intro Q;unfold Oper.wp;have hrun:(execOp a.eval o).run P w= .ok (.value (.tuple #[])) w:=by
  rw [aT ho hc,hTy,hargs];cases A<;>simp [builtin,Builtin.clear_,run_underlying hu]
 rw [hrun];show dL E _ _ (a.put o.dst _)
 rw [hd];exact⟨ro,own,h⟩
theorem GL (h:bA E ro own s w a) {o:Oper} {c:Call} {T:TypeId} {vx:Value} (ho:o.op= .call c) (hc:c.callee= .builtin .len) (hTy:c.argTypes= #[T]) (hargs:c.args.map a.eval= #[vx]) (hT:oU P T=true) (hx:Rel ro own .emp vx) {ws} (hk:(bm E.N o.dst (.int .i64 0)).ok s ws):fW E P o s w a ws:=by
 obtain⟨e,es,hu,hes⟩:=pz hT;obtain⟨A,rfl⟩:=nR hx;refine aP h (v:= .int .i64 0) ?_ (.int _ _ _) hk;rw [aT ho hc,hTy,hargs];simp [builtin,Builtin.len_,run_underlying hu,goInt]
theorem NY (h:bA E ro own s w a) {o:Oper} {c:Call} {x y z:SV} {vx vy vz:Value} {u:SV} (ho:o.op= .call c) (hc:c.callee= .builtin .max) (hargs:c.args.map a.eval= #[vx,vy,vz]) (hx:Rel ro own x vx) (hy:Rel ro own y vy) (hz:Rel ro own z vz) (hu:Ga x y=some u) {ws} (hk:(oF E.N o.dst (Ga u z)).ok s ws):fW E P o s w a ws:=by
 unfold Ga at hu;split at hu
 case h_2=>cases hu
 rename_i k p k' q;split at hu
 case isFalse=>cases hu
 rename_i e;subst e;simp at hu;subst hu;unfold oF at hk;split at hk
 case h_2=>exact hk.elim
 rename_i r hr;unfold Ga at hr;split at hr
 case h_2=>cases hr
 rename_i k1 p1 k2 q2 heq;simp at heq;obtain⟨rfl,rfl⟩:=heq;split at hr
 case isFalse=>cases hr
 rename_i e;subst e;simp at hr;subst hr;refine aP h (v:= .int k (if q2>(if q>p then q else p)then q2 else(if q>p then q else p))) ?_ (.int _ _ _) hk;rw [aT ho hc,hargs,aK hx,aK hy,aK hz];simp [builtin,Builtin.max_,Builtin.max2]
theorem YH (h:bA E ro own s w a) {c:Call} {k:List SV->Tx} {ws} (hk:(jI c.args.toList k).ok s ws): ∃xs,aQ ro own xs (c.args.toList.map a.eval)/\(k xs).ok s ws:=ku h hk
theorem Sj {c:Call} {x:SV} (h:aQ ro own [x] (c.args.toList.map a.eval)): ∃v,c.args.map a.eval= #[v]/\Rel ro own x v:=by
 match hl:c.args.toList.map a.eval,h with
 |[v],hh=>exact⟨v,by rw [<-Array.toList_inj];simpa using hl,hh.1⟩
theorem OJ {c:Call} {x y:SV} (h:aQ ro own [x,y] (c.args.toList.map a.eval)): ∃v u,c.args.map a.eval= #[v,u]/\Rel ro own x v/\Rel ro own y u:=by
 match hl:c.args.toList.map a.eval,h with
 |[v,u],hh=>exact⟨v,u,by rw [<-Array.toList_inj];simpa using hl,hh.1,hh.2.1⟩
theorem ZD {c:Call} {x y z:SV} (h:aQ ro own [x,y,z] (c.args.toList.map a.eval)): ∃v u t,c.args.map a.eval= #[v,u,t]/\Rel ro own x v/\Rel ro own y u/\Rel ro own z t:=by
 match hl:c.args.toList.map a.eval,h with
 |[v,u,t],hh=>exact⟨v,u,t,by rw [<-Array.toList_inj];simpa using hl,hh.1,hh.2.1,hh.2.2.1⟩
theorem noC {f:Nat} {c:bB}:(fun _:Nat=>(none:Option bB)) f=some c->nh P f c:=fun h=>by cases h
theorem tE (h:bA E ro own s w a) {o:Oper} {v:Value} {z:Option SV} {ws} (hrun:(execOp a.eval o).run P w= .ok (.value v) w) (hr: ∀x,z=some x->Rel ro own x v) (hk:(oF E.N o.dst z).ok s ws):fW E P o s w a ws:=by
 unfold oF at hk;split at hk
 . exact aP h hrun (hr _ rfl) hk
 . exact hk.elim
theorem Br (h:bA E ro own s w a) {H:HT} (hH:yf H) {o:Oper} {op:BinOp} {T U:TypeId} {x y:Operand} (ho:o.op= .binOp op T x y U) {x' y':SV} (hx:Rel ro own x' (a.eval x)) (hy:Rel ro own y' (a.eval y)) {ws} (hk:(xg P H E.N o.dst op T x' y').ok s ws):fW E P o s w a ws:=by
 unfold xg at hk;split at hk
 case h_2=>exact hk.elim
 rename_i p q hp hq;obtain⟨n,hn,yn⟩:=kZ hp hx;obtain⟨m,hm,ym⟩:=kZ hq hy;have hg: ∀{op:BinOp},(eqGuard op T x y (.int .i64 n) (.int .i64 m)).run P w= .ok () w:=fu rfl (by simp);have ex: ∀{v},(binOp op T (.int .i64 n) (.int .i64 m)).run P w= .ok v w->(execOp a.eval o).run P w= .ok (.value v) w:=fun {v} hrun=>by
  unfold execOp;simp [ho,hn,hm,hg,hrun]
 split at hk
 . refine tE h (v:= .int .i64 (IntKind.i64.wrap (n.tdiv m))) ?_ (fun z hz=>(Fa hH yn ym hz).2 _ _) hk;refine ex ?_;have:m≠0:=by
    unfold oF at hk;split at hk
    . rename_i z hz;exact(Fa hH yn ym hz).1
    . exact hk.elim
   simp [binOp,Op.intDiv,this]
 . split at hk
   case h_2=>exact hk.elim
   unfold oF at hk;split at hk
   case h_2=>exact hk.elim
   rename_i z hz;obtain⟨v,hv,hr⟩:=RS hH yn ym hz;obtain⟨u,hrun,hu⟩:=He (P:=P) (w:=w) (ro:=ro) (own:=own) (T:=T) hv;exact aP h (ex hrun) (hr _ _ _ hu) hk
theorem KQ (h:bA E ro own s w a) {H:HT} (hH:yf H) {o:Oper} {op:BinOp} {T U:TypeId} {x y:Operand} (ho:o.op= .binOp op T x y U) {l l':List ar} (hx:Rel ro own (.agg l) (a.eval x)) (hy:Rel ro own (.agg l') (a.eval y)) {ws} (hk:(CZ P H E.N o.dst op T l l').ok s ws):fW E P o s w a ws:=by
 refine uF h ho (D2 hx) (D2 hy) ?_;obtain⟨cs,_,_,h1⟩:=cU hx;obtain⟨cs',_,_,h2⟩:=cU hy;unfold CZ at hk;unfold yp;simp only;split at hk
 case h_2=>exact hk.elim
 rename_i ks hks;split at hk
 case isFalse=>exact hk.elim
 rename_i hc;rw [hks];dsimp only;rw [if_pos ⟨hc.1,lK hc.2.1,hc.2.2⟩];obtain⟨⟨f1,f2⟩,hk⟩:=hk;refine⟨⟨qP f1,qP f2⟩,?_⟩;split at hk
 . rename_i b hb;rw [rZ hH h1 h2 hb];exact hk
 . rename_i b hb;rw [rZ hH h1 h2 hb];exact hk
 . exact hk.elim
theorem N8 (h:bA E ro own s w a) {H:HT} (hH:yf H) {o:Oper} {op:BinOp} {T U:TypeId} {x y:Operand} (ho:o.op= .binOp op T x y U) {x' y':SV} (hx:Rel ro own x' (a.eval x)) (hy:Rel ro own y' (a.eval y)) {ws} (hk:(GN P H E.N o.dst op T x' y').ok s ws):fW E P o s w a ws:=by
 unfold GN at hk;split at hk
 . exact Br h hH ho hx hy hk
 . split at hk
   . split at hk
     . exact KQ h hH ho hx hy hk
     . exact uF h ho hx hy hk
   . exact hk.elim
 . split at hk
   . exact Br h hH ho hx hy hk
   . exact uF h ho hx hy hk
theorem snd_unD (h:bA E ro own s w a) {H:HT} (hH:yf H) {o:Oper} {op:UnOp} {T:TypeId} {x:Operand} (ho:o.op= .unOp op T x) {x':SV} (hx:Rel ro own x' (a.eval x)) {ws} (hk:(MM H E.N o.dst op x').ok s ws):fW E P o s w a ws:=by
 unfold MM at hk;split at hk
 . split at hk
   . rename_i p hp;obtain⟨n,hn,yn⟩:=kZ hp hx;refine tE h (v:= .int .i64 (IntKind.i64.wrap (0-n))) ?_ (fun z hz=>MR hH yn hz _ _) hk;unfold execOp;simp [ho,hn,Op.unary,Op.intArith]
   . exact hk.elim
 . exact I5 h ho hx hk
theorem Sf (h:bA E ro own s w a) {H:HT} (hH:yf H) {o:Oper} {nid:Nat} {S D:TypeId} {x:Operand} (ho:o.op= .convert S D x) {x':SV} (hx:Rel ro own x' (a.eval x)) {ws} (hk:(Dq P H E.N nid o.dst S D x').ok s ws):fW E P o s w a ws:=by
 unfold Dq at hk;split at hk
 . rename_i e lo hi;split at hk
   . rename_i k1 h1 h2;obtain⟨n,hn,yn⟩:=kZ (a:=(e,lo,hi)) rfl hx;refine tE h (v:= .int .i64 (IntKind.i64.wrap n)) ?_ (fun z hz=> ?_) hk
     . unfold execOp;simp [ho,hn,convert,run_underlying h1,run_underlying h2,Conv.intToInt]
     . obtain⟨g1,g2⟩:=jr hH hz (by rw [<-yn.eq];exact yn.lo) (by rw [<-yn.eq];exact yn.hi);have e1:=yn.eq;simp only at e1;rw [e1,g1];exact g2 _ _
   . exact hk.elim
 . exact Bq h ho hx hk
theorem MS (h:bA E ro own s w a) {o:Oper} {c:Call} {x y:SV} {vx vy:Value} {f:YB->YB->Option SV} {g:Int->Int->Int} (hrun: ∀n m,vx= .int .i64 n->vy= .int .i64 m->(execOp a.eval o).run P w= .ok (.value (.int .i64 (g n m))) w) (hf: ∀{p q:YB} {n m:Int},Dk p n->Dk q m-> ∀z,f p q=some z->Rel ro own z (.int .i64 (g n m))) (hx:Rel ro own x vx) (hy:Rel ro own y vy) {ws} (hk:(RF f E.N o.dst x y).ok s ws):fW E P o s w a ws:=by
 unfold RF at hk;split at hk
 case h_2=>exact hk.elim
 rename_i p q hp hq;obtain⟨n,hn,yn⟩:=kZ hp hx;obtain⟨m,hm,ym⟩:=kZ hq hy;exact tE h (hrun n m hn hm) (fun z hz=>hf yn ym z hz) hk
theorem Og (h:bA E ro own s w a) {o:Oper} {nid:Nat} {T:TypeId} {len:Nat} {parts:Array (Nat×Operand)} (ho:o.op= .buildSlice T len parts) {xs:List SV} (hr:aQ ro own xs ((parts.toList.map (·.2)).map a.eval)) {ws}
 (hk:(dS P E.N nid o.dst T len ((parts.toList.map (·.1)).zip xs)).ok s ws):fW E P o s w a ws:=by
 have hl:=hr.length;simp at hl;have hidx:((parts.toList.map (·.1)).zip xs).map (·.1)=((parts.map fun(i,x)=>(i,a.eval x)).toList).map (·.1):=by
  rw [List.map_fst_zip (by simp [hl])];simp [Xo]
 have hrel:aQ ro own (((parts.toList.map (·.1)).zip xs).map (·.2)) (((parts.map fun(i,x)=>(i,a.eval x)).toList).map (·.2)):=by
  rw [List.map_snd_zip (by simp [hl])];simpa [Xo]using hr
 unfold dS at hk;split at hk
 case h_2=>exact hk.elim
 rename_i e hT;split at hk
 case h_2=>exact hk.elim
 rename_i z es hz hes;split at hk
 case isFalse=>exact hk.elim
 rename_i hc;obtain⟨hc1,hc2,hc3⟩:=hc;split at hk
 case h_2=>exact hk.elim
 rename_i f hf;obtain⟨zv,z1,z2,z3⟩:=gl (ro:=ro) (own:=own) hz;have hzr:mK ro own [.a len es fun _=>z] ((Array.range (len*es)).map ((if len*es=0 then #[]else zv.cells)[· %(if len*es=0 then #[]else zv.cells).size]!)):=by
  by_cases h0:len*es=0
  . refine⟨by simp [aa,ar.size],fun k sv hk=> ?_⟩;have:=cK hk;simp [aa,ar.size]at this;omega
  . simp only [h0,if_false];exact Cg z2 hc1 z3
 obtain⟨cs',e1,e2⟩:=l7 hf hzr hidx hrel;have hcs:cs'.size=len*es:=by rw [e2.1];simp [aa,ar.size]
 refine qU h (cap:=len) (v:= .slice (some ⟨w.heap.size,0,none⟩) len len) (w':=w.alloc (.cells cs' e)) (lo:=0) (hi:=0) rfl rfl rfl rfl ?_ (fun _=>⟨len,f,rfl,J1 _,hcs⟩) (by simp) (by rw [e2.1];exact J1 _) (.inl (J1 _)) ?_ e2.2 ?_ hk
 . unfold execOp;simp only [ho,Instr.buildSlice,Sem.run_bind,run_underlying hT,Result.andThen_ok,aS hes];rw [if_neg (by omega)]
   by_cases h0:len*es=0
   . simp only [h0,if_true]at e1;simp only [h0,if_true,Sem.run_pure,Result.andThen_ok,e1,newRow,Sem.run_bind,run_newObj];rfl
   . simp only [h0,if_false]at e1;simp only [h0,if_false,Sem.run_bind,z1,Result.andThen_ok,Sem.run_pure,e1,newRow,run_newObj];rfl
 . rintro t ht;simp at ht;refine⟨rfl,rfl,ht,?_⟩;have:len<=len*es:=Nat.le_mul_of_pos_right _ hc2;unfold maxLen;omega
 . intro own' k1 k2 k3 k4;have:=Rel.sl (ro:=ro) own' nid 0 0 len w.heap.size k1 (by rw [k2];omega);rw [k2]at this;simpa using this
theorem RG (h:bA E ro own s w a) {o:Oper} {nid:Nat} {T:TypeId} {len:Nat} {parts:Array (Nat×Operand)} (ho:o.op= .buildSlice T len parts) {xs:List SV} (hr:aQ ro own xs ((parts.toList.map (·.2)).map a.eval)) {ws}
 (hk:(mI P E.N nid o.dst T len (parts.toList.map (·.1)) xs).ok s ws):fW E P o s w a ws:=by
 unfold mI at hk;obtain⟨xs',ws0,ro2,hk,h2,hF,h3,h4⟩:=mb (s1:=s) ⟨fun _ _=>rfl,fun _=> .inl rfl⟩ h hr hk;have key: ∃ws1,ws=ws0++ws1/\(dS P E.N nid o.dst T len ((parts.toList.map (·.1)).zip xs')).ok (s.apply ws0) ws1:=by
  split at hk
  case h_2=>exact hk.elim
  rename_i e hT;split at hk
  case h_2=>exact hk.elim
  rename_i z es hz hes;split at hk
  case isFalse=>exact hk.elim
  rename_i hc;split at hk
  case h_2=>exact hk.elim
  rename_i f hf;split at hk
  case h_2=>exact hk.elim
  rename_i d hd;split at hk
  case isFalse=>exact hk.elim
  rename_i hdN;obtain⟨hfree,hk⟩:=kC hk;have e:ws=ws0++(lO nid true (some e) es [.a len es f]++[(.tm d, .v (.sl nid 0 0 len))]):=hk.symm;refine⟨_,e,?_⟩;unfold dS;rw [hT];simp only [hz,hes];rw [if_pos hc,hf];unfold uf;rw [hd];simp only [if_pos hdN];unfold oO;simp only [Tx.ok,hF.free hfree]
 obtain⟨ws1,rfl,hk1⟩:=key;have:=Og h3 ho (h4.mono (.refl _) (Own.empty_le _)) hk1;intro Q;rw [aM];exact this Q
theorem VE (h:bA E ro own s w a) {H:HT} (hH:yf H) {o:Oper} {nid:Nat} {ws} (hk:(Zo P H E.N nid o).ok s ws):fW E P o s w a ws:=by
 have gen:(kf P E.N (fun _=>none) nid o).ok s ws->fW E P o s w a ws:=fun hk=>Eg (fun f c=>noC) h hk
 unfold Zo at hk;split at hk
 . rename_i op T x ho;obtain⟨x',hx,hk1⟩:=aZ h hk;exact snd_unD h hH ho hx hk1
 . rename_i S D x ho;obtain⟨x',hx,hk1⟩:=aZ h hk;exact Sf h hH ho hx hk1
 . exact Ez h (by assumption) hk
 . rename_i T x k ok ho;split at hk
   case isFalse=>exact hk.elim
   rename_i e;subst e;obtain⟨x',hx,hk1⟩:=aZ h hk;obtain⟨k',hk',hk2⟩:=aZ h hk1;exact I4 h ho hx hk' hk2
 . rename_i T m k v ho;obtain⟨m',hm,hk1⟩:=aZ h hk;obtain⟨k',hk',hk2⟩:=aZ h hk1;obtain⟨v',hv,hk3⟩:=aZ h hk2;exact Ai h ho hm hk' hv hk3
 . rename_i x ho;obtain⟨x',hx,hk1⟩:=aZ h hk;exact Ey h ho hx hk1
 . rename_i T x ho;obtain⟨x',hx,hk1⟩:=aZ h hk;exact WZ h ho hx hk1
 . rename_i x b ho;split at hk
   case isFalse=>exact hk.elim
   rename_i e;subst e;obtain⟨x',hx,hk1⟩:=aZ h hk;exact M8 h ho hx hk1
 . rename_i op T x y U ho;split at hk
   . rename_i hc;simp only [J2]at hc;obtain⟨x',hx,hk1⟩:=aZ h hk;exact RQ h ho hc.1 hc.2 hx hk1
   . obtain⟨x',hx,hk1⟩:=aZ h hk;obtain⟨y',hy,hk2⟩:=aZ h hk1;exact N8 h hH ho hx hy hk2
 . rename_i T l c ho;obtain⟨x',hx,hk1⟩:=aZ h hk;split at hk1
   . obtain⟨y',hy,hk2⟩:=aZ h hk1;split at hk2
     . exact D1 h ho (aK hx) (aK hy) hk2
     . exact hk2.elim
   . exact gen hk1
 . rename_i T parts ho;split at hk
   case isFalse=>exact hk.elim
   rename_i hp;exact BV h ho (Array.eq_empty_of_size_eq_zero hp) hk
 . rename_i T len parts _ ho;obtain⟨xs,hr,hk1⟩:=ku h hk;split at hk1
   . exact RG h ho hr hk1
   . exact Og h ho hr hk1
 . rename_i T x lo hi mx ho;split at hk
   . obtain⟨x',hx,hk1⟩:=aZ h hk;obtain⟨lo',hl0,hl1,hk2⟩:=ud h hk1;obtain⟨hi',hh0,hh1,hk3⟩:=ud h hk2;split at hk3
     . rename_i l u hT hlo hhi;exact GH h ho hT hx hl0 hl1 hh0 hh1 hlo hhi hk3 gen
     . exact gen hk3
   . rename_i mx;split at hk
     . rename_i hi;obtain⟨x',hx,hk1⟩:=aZ h hk;obtain⟨hi',hhi,hk2⟩:=aZ h hk1;obtain⟨mx',hmx,hk3⟩:=aZ h hk2;split at hk3
       . rename_i k u k' m' hT;exact GZ h ho hT hx (aK hhi) (aK hmx) hk3
       . exact hk3.elim
     . exact hk.elim
 . rename_i c ho;split at hk
   . rename_i hc;obtain⟨xs,hxs,hk1⟩:=YH h hk;split at hk1
     . rename_i x y;obtain⟨vx,vy,hargs,hx,hy⟩:=OJ hxs;split at hk1
       . rename_i t t' hty;split at hk1
         . rename_i hct;obtain⟨rfl,hT⟩:=hct;have hTy:c.argTypes= #[t,t]:=by rw [<-Array.toList_inj];exact hty
           split at hk1
           . rename_i hye;split at hk1
             . rename_i hxs;exact ET h ho hc hTy hargs hT hx hy hxs hye hk1
             . exact hk1.elim
           . rename_i hye;split at hk1
             . rename_i hxe;have hne: ∃B k cc,vy= .slice B k cc/\1<=k:=by
                have hk0:=hk1;unfold kY at hk0;split at hk0
                case h_2=>exact hk0.elim
                split at hk0
                case h_2=>exact hk0.elim
                split at hk0
                case isFalse=>exact hk0.elim
                unfold xL at hk0;split at hk0
                . simp [isEmpty]at hye
                . rename_i es' len f;rcases dE hy with⟨hl,_⟩|⟨b,k0,cap,vs,hv,_⟩
                  . subst hl;simp [isEmpty]at hye
                  . refine⟨_,_,_,hv,?_⟩;cases len with
                    |zero=>simp [isEmpty]at hye
                    |succ n=>omega
                . rename_i id aD off len;rcases fH hy with⟨b,_,_,hv⟩|⟨_,hl,_,_⟩
                  . refine⟨_,_,_,hv,?_⟩;cases len with
                    |zero=>simp [isEmpty]at hye
                    |succ n=>omega
                  . subst hl;simp [isEmpty]at hye
                . exact hk0.elim
               exact Aq h ho hc hTy hargs hxe hx hy hne hk1
             . exact gen hk1
         . exact gen hk1
       . exact hk1.elim
     . exact hk1.elim
   . rename_i hc;obtain⟨xs,hxs,hk1⟩:=YH h hk;split at hk1
     . rename_i x y z;obtain⟨vx,vy,vz,hargs,hx,hy,hz⟩:=ZD hxs;split at hk1
       . rename_i u hu;exact NY h ho hc hargs hx hy hz hu hk1
       . exact hk1.elim
     . rename_i x y;obtain⟨vx,vy,hargs,hx,hy⟩:=OJ hxs;split at hk1
       . refine MS (g:=fun n m=>if m>n then m else n) h (c:=c) (fun n m hn hm=> ?_) (fun yn ym z hz=>L4 hH yn ym hz _ _) hx hy hk1;rw [aT ho hc,hargs,hn,hm];simp [builtin,Builtin.max_,Builtin.max2]
       . exact gen hk1
     . exact gen hk1
   . rename_i hc;obtain⟨xs,hxs,hk1⟩:=YH h hk;split at hk1
     . rename_i x y;obtain⟨vx,vy,hargs,hx,hy⟩:=OJ hxs;split at hk1
       . refine MS (g:=fun n m=>if m<n then m else n) h (c:=c) (fun n m hn hm=> ?_) (fun yn ym z hz=>Pd hH yn ym hz _ _) hx hy hk1;rw [aT ho hc,hargs,hn,hm];simp [builtin,Builtin.min_,Builtin.min2]
       . exact gen hk1
     . exact gen hk1
   . rename_i hc;obtain⟨xs,hxs,hk1⟩:=YH h hk;split at hk1
     . rename_i x;obtain⟨vx,hargs,hx⟩:=Sj hxs;split at hk1
       . rename_i t hty;split at hk1
         . rename_i hT;have hTy:c.argTypes= #[t]:=by rw [<-Array.toList_inj];exact hty
           exact KJ h ho hc hTy hargs hT hx hk1
         . exact hk1.elim
       . exact hk1.elim
     . exact hk1.elim
   . rename_i hc;obtain⟨xs,hxs,hk1⟩:=YH h hk;split at hk1
     . rename_i x;obtain⟨vx,hargs,hx⟩:=Sj hxs;split at hk1
       . rename_i he;split at hk1
         . rename_i t hty;split at hk1
           . rename_i hT;have hTy:c.argTypes= #[t]:=by rw [<-Array.toList_inj];exact hty
             have hx':x= .emp:=by
              unfold FD at he;split at he
              . rfl
              . cases he
             subst hx';exact GL h ho hc hTy hargs hT hx hk1
           . exact hk1.elim
         . exact hk1.elim
       . exact gen hk1
     . exact gen hk1
   . exact gen hk
 . exact gen hk
end
end Go.Sx
namespace Go.Sx
open Go Go.RowKit
variable [bW]
def lU (M:Nat) (en:Trie Rn) (σ:St):St
 | .tm t=>σ (.tm t)
 | .mt id=>if id<M then .m ((en.at id).map (·.1))else σ (.mt id)
 | .sg id q=>if id<M then .s (((en.at id).bind fun e=>e.2[q]?).getD (.s .any))else σ (.sg id q)
def mix (M:Nat) (s:cg) (σ:St):St
 | .tm t=>s.get (.tm t)
 | .mt id=>if id<M then s.get (.mt id)else σ (.mt id)
 | .sg id q=>if id<M then s.get (.sg id q)else σ (.sg id q)
instance (n : Nat) (l : Loc) : Decidable (gF n l) := by cases l <;> unfold gF <;> infer_instance
theorem CO {M:Nat} {s:cg} {σ:St} {l:Loc} (h:gF M l):mix M s σ l=s.get l:=by
 cases l<;>simp only [mix,gF]at h⊢ <;>simp [h]
theorem kQ {n m:Nat} (h:n<=m) {l:Loc} (hl:gF n l):gF m l:=by
 cases l<;>simp only [gF]at hl⊢ <;>omega
theorem mg {n:Nat}: ∀{R:List Loc},nK n R=true-> ∀l∈R,gF n l
 |[],_,l,hl=>by simp at hl
 | .tm t::r,h,l,hl=>by
  rcases Kd.1 hl with rfl|hl
  . trivial
  . exact mg (R:=r) h l hl
 | .mt i::r,h,l,hl=>by
  simp only [nK,J2,zb]at h;rcases Kd.1 hl with rfl|hl
  . exact h.1
  . exact mg h.2 l hl
 | .sg i q::r,h,l,hl=>by
  simp only [nK,J2,zb]at h;rcases Kd.1 hl with rfl|hl
  . exact h.1
  . exact mg h.2 l hl
theorem YE {M:Nat} {s s':cg} {σ:St} {ws:List (Loc×Item)} (h:T4 s s' ws) (hg:GE s.nx s.en) (hM:s'.nx<=M):mix M s' σ=(mix M s σ).apply ws:=by
 have key: ∀(ws:List (Loc×Item)) (g:St),(∀l∈ws.map (·.1),gF M l)-> ∀l,(if gF M l then(St.apply g ws) l else σ l)=(St.apply (fun l=>if gF M l then g l else σ l) ws) l:=by
  intro ws
  induction ws with
  |nil=>intro g _ l;rfl
  |cons x r ih=>
   intro g hl l;obtain⟨l0,x⟩:=x;simp only [St.apply];rw [ih _ (fun l' h'=>hl l' (by simp [h']))]
   congr 1
   funext l'
   simp only [St.put];have h0:gF M l0:=hl l0 (by simp)
   by_cases e:l'=l0
   . subst e;simp [h0]
   . simp [e]
 have hm: ∀(t:cg),mix M t σ=fun l=>if gF M l then t.get l else σ l:=by
  intro t;funext l;cases l<;>simp [mix,gF]
 rw [hm,hm]
 funext l
 have:=key ws s.get (fun l hl=>kQ hM (h.Yt hg l hl)) l;rw [<-this,h.get]
theorem bA.congr {E:Env} {ro:RO} {own:Own} {s s':St} {w:World} {a:Act} (h:bA E ro own s w a) (ht: ∀t,s' (.tm t)=s (.tm t)) (hm: ∀id,s' (.mt id)=s (.mt id)) (hs: ∀id m q,s (.mt id)= .m (some m)->(q<m.ns\/q=0)->s' (.sg id q)=s (.sg id q)):bA E ro own s' w a:=by
 have hsegs: ∀id m,s (.mt id)= .m (some m)->s'.az id m.ns=s.az id m.ns:=fun id m h1=>St.dc fun q hq=>hs id m q h1 (.inl hq)
 refine {below:=h.below,base:=h.base,defs:=h.defs,size:=h.size,tm:=fun t sv h1=>h.tm t sv (by rw [<-ht];exact h1),cJ:=h.cJ,ee:=h.ee,gK:=fun id m h1=> ?_,fr:=fun id h1=>h.fr id (by rw [<-hm];exact h1),mY:=fun id m h1=>h.mY id m (by rw [<-hm];exact h1),inj:=fun id id' m m' b h1 h2=>h.inj id id' m m' b (by rw [<-hm];exact h1) (by rw [<-hm];exact h2),kk:=h.kk,mp:=⟨fun id m n e f h1 h2 h3=> ?_,fun id id' m m' b n e f n' e' f' h1 h2 h3 h4 g1 g2=> ?_⟩}
 . rw [hm]at h1;rw [hsegs id m h1];exact h.gK id m h1
 . rw [hm]at h1;exact h.mp.at_ id m n e f h1 h2 (by rw [<-hs id m 0 h1 (.inr rfl)];exact h3)
 . rw [hm]at h1 h2;exact h.mp.inj id id' m m' b n e f n' e' f' h1 h2 h3 h4 (by rw [<-hs id m 0 h1 (.inr rfl)];exact g1) (by rw [<-hs id' m' 0 h2 (.inr rfl)];exact g2)
def Sub (L:List Loc) (m:Nat):Prop:= ∀l∈L,m.testBit l.enc=true
theorem sY : ∀{L:List Loc} {k:Nat},(bY L).testBit k=true-> ∃l∈L,l.enc=k
 |[],k,h=>by simp [bY]at h
 |x::r,k,h=>by
  simp only [bY,Qc,Qz]at h;rcases h with h|h
  . rw [Ze,Nat.testBit_two_pow]at h;exact⟨x,by simp,by simpa using h⟩
  . obtain⟨l,h1,h2⟩:=sY h;exact⟨l,by simp [h1],h2⟩
theorem Sub.self (L:List Loc):Sub L (bY L):=fun l hl=>nW hl
theorem Sub.and {A B:List Loc} {a b:Nat} (ha:Sub A a) (hb:Sub B b) (h:a&&&b=0):bY A&&&bY B=0:=by
 apply Nat.eq_of_testBit_eq;intro i;rw [Nat.testBit_and,Nat.zero_testBit];cases h1:(bY A).testBit i with
 |false=>rfl
 |true=>
  cases h2:(bY B).testBit i with
  |false=>rfl
  |true=>
   obtain⟨l1,q1,rfl⟩:=sY h1;obtain⟨l2,q2,e⟩:=sY h2;have:=congrArg (·.testBit l1.enc) h;simp [Nat.testBit_and,ha l1 q1,<-e,hb l2 q2]at this;rw [e,ha l1 q1]at this;cases this
inductive G6 : List Step -> List Da -> Prop
 | nil : G6 [] []
 | cons {x : Step} {t : Da} {l : List Step} {r : List Da} (h1 : Sub x.R t.1) (h2 : Sub (x.ws.map (·.1)) t.2) (h : G6 l r) : G6 (x :: l) (t :: r)
theorem G6.append {l l':List Step} {r r':List Da} (h:G6 l r) (h':G6 l' r'):G6 (l++l') (r++r'):=by
 induction h with
 |nil=>exact h'
 |cons h1 h2 _ ih=>exact .cons h1 h2 ih
theorem Sub.or {A B:List Loc} {a b:Nat} (ha:Sub A a) (hb:Sub B b):Sub (A++B) (a|||b):=fun l hl=>by
 rw [Qc,Qz];rcases Xt.1 hl with h|h
 . exact .inl (ha l h)
 . exact .inr (hb l h)
theorem Ag (A B:List Loc):bY (A++B)=bY A|||bY B:=by
 induction A with
 |nil=>simp [bY]
 |cons x r ih=>simp only [K0,bY,ih,Nat.or_assoc]
theorem BR {i:Nat} {R W:List Loc} {r w:Nat} (hr:Sub R r) (hw:Sub W w): ∀{ms:List Nat} {st:List Step} {tr:List Da},G6 st tr->my i r w (Le ms tr)=true->my i (bY R) (bY W) (wH ms (st.map fun x=>(x.R,x.ws.map (·.1))))=true
 |[],_,_,_,_=>by simp [wH,my]
 |m::ms,_,_, .nil,_=>by simp [wH,my]
 |m::ms,_,_, .cons (x:=x) (t:=t) h1 h2 h,hk=>by
  simp only [Le,my,J2,Qz]at hk;simp only [J8,wH,my,J2,Qz];refine⟨?_,BR hr hw h hk.2⟩;rcases hk.1 with q|⟨q1,q2⟩
  . exact .inl q
  . right;have q1:=Jd q1;have q2:=Jd q2;have s1:=hw.and (h1.or h2) q1;rw [Ag]at s1;have s2:=h2.and hr q2;rw [s1,s2];exact⟨rfl,rfl⟩
theorem AI : ∀{k:Nat} {ms:List Nat} {st:List Step} {tr:List Da},G6 st tr->qj k (Le ms tr)=true->qj k (wH ms (st.map fun x=>(x.R,x.ws.map (·.1))))=true
 |_,[],_,_,_,_=>by simp [wH,qj]
 |_,m::ms,_,_, .nil,_=>by simp [wH,qj]
 |k,m::ms,_,_, .cons (x:=x) (t:=t) h1 h2 h,hk=>by
  simp only [Le,qj,J2]at hk;simp only [J8,wH,qj,J2];exact⟨BR h1 h2 h hk.1,AI h hk.2⟩
theorem anyD_ok {ops:Array Oper} {st:List Step} {tr:List Da} (h:G6 st tr) (hk:Nr ops tr=true):Ej ops (st.map fun x=>(x.R,x.ws.map (·.1)))=true:=by
 simp only [Nr,J2]at hk;simp only [Ej,J2];exact⟨hk.1,AI h hk.2⟩
theorem Fz (n:Nat):geo (n+1)=8*geo n+1:=by
 have h7: ∀n,8^n%7=1:=by
  intro n
  induction n with
  |zero=>rfl
  |succ n ih=>rw [Xi,Nat.mul_mod,ih]
 have h:=h7 n;have hp:0<8^n:=Z4 (by omega);unfold geo;rw [Xi];omega
theorem tU : ∀{n i:Nat},i<n->(geo n).testBit (3*i)=true
 |n+1,0,_=>by
  rw [Fz,Nat.mul_zero,Nat.testBit_zero];simp;omega
 |n+1,i+1,h=>by
  rw [Fz,show 3*(i+1)=3*i+3 from by omega,Nat.testBit_add,show 2^3=8 from rfl,show(8*geo n+1)/8=geo n from by omega];exact tU (by omega)
theorem FE (x k:Nat):(x*2).testBit (k+1)=x.testBit k:=by
 rw [show x*2=2*x from by omega,Nat.testBit_add];simp
theorem FR (x k:Nat):(x*4).testBit (k+2)=x.testBit k:=by
 rw [Nat.testBit_add,show 2^2=4 from rfl,show x*4/4=x from by omega]
theorem Io {n m i:Nat} (h:i<m):(Tw n m).testBit (Loc.mt i).enc=true:=by
 simp only [Tw,Loc.enc,Qc,FE,tU h,Bool.true_or]
theorem Qt {n m i q:Nat} (h:i<n) (hq:q<64):(Tw n m).testBit (Loc.sg i q).enc=true:=by
 simp only [Tw,Loc.enc,Qc,FR,tU (show 64*i+q<64*n from by omega),Bool.or_true]
theorem I3 {n k i:Nat} (h1:n<=i) (h:i<n+k):(Sb n k).testBit (Loc.mt i).enc=true:=by
 simp only [Sb,Loc.enc,Qc,Nat.testBit_shiftLeft];have e:3*i+1-3*n=3*(i-n)+1:=by omega
 rw [e,FE,tU (by omega)];simp;omega
theorem Np {n k i q:Nat} (h1:n<=i) (h:i<n+k) (hq:q<64):(Sb n k).testBit (Loc.sg i q).enc=true:=by
 simp only [Sb,Loc.enc,Qc,Nat.testBit_shiftLeft];have e:3*(64*i+q)+2-192*n=3*(64*(i-n)+q)+2:=by omega
 rw [e,FR,tU (by omega)];simp;omega
theorem Iw {n m i:Nat}: ∀{wr:List Nat},n<=i->i<m->(Ms n m wr).testBit (Loc.mt i).enc=true/\ ∀q,q<64->(Ms n m wr).testBit (Loc.sg i q).enc=true
 |[],h1,h2=>⟨I3 h1 (by omega),fun q hq=>Np h1 (by omega) hq⟩
 |j::r,h1,h2=>by
  obtain⟨q1,q2⟩:=Iw (wr:=r) h1 h2;simp only [Ms,Qc];exact⟨by rw [q1];simp,fun q hq=>by rw [q2 q hq];simp⟩
theorem I7 {n m i:Nat}: ∀{wr:List Nat},i∈wr->(Ms n m wr).testBit (Loc.mt i).enc=true/\ ∀q,q<64->(Ms n m wr).testBit (Loc.sg i q).enc=true
 |j::r,h=>by
  simp only [Ms,Qc];rcases Kd.1 h with rfl|h
  . exact⟨by rw [I3 (J1 _) (by omega)];simp,fun q hq=>by rw [Np (J1 _) (by omega) hq];simp⟩
  . obtain⟨q1,q2⟩:=I7 h;exact⟨by rw [q1];simp,fun q hq=>by rw [q2 q hq];simp⟩
theorem Tx.ki {s:cg}: ∀{t:Tx} {R R':List Loc} {ws:List (Loc×Item)},t.lh s R=some (R',ws)->t.ok s.get ws/\(∀l∈t.reads s.get,l∈R')/\ ∀l∈R,l∈R'
 | .done ws,R,R',ws',h=>by
  simp [Tx.lh]at h;obtain⟨rfl,rfl⟩:=h;exact⟨rfl,by simp [Tx.reads],fun _ h=>h⟩
 | .rd l f,R,R',ws,h=>by
  simp only [Tx.lh]at h;obtain⟨h1,h2,h3⟩:=Tx.ki (t:=f (s.get l)) h;refine⟨h1,fun l' hl=> ?_,fun l' hl=>h3 l' (by simp [hl])⟩;simp only [Tx.reads,Kd]at hl;rcases hl with rfl|hl
  . exact h3 _ (by simp)
  . exact h2 l' hl
 | .AU p a,R,R',ws,h=>by simp [Tx.lh]at h
 | .kK p d a,R,R',ws,h=>by
  cases d with
  |isFalse hp=>simp [Tx.lh]at h
  |isTrue hp=>
   simp only [Tx.lh]at h;obtain⟨h1,h2,h3⟩:=Tx.ki (t:=a) h;exact⟨⟨hp,h1⟩,h2,h3⟩
 | .fail,R,R',ws,h=>by simp [Tx.lh]at h
structure An (X : DX) : Prop where
 I : ∀ f fn, X.I f = some fn -> X.P.funcs[f]? = some fn /\ fn.body = some (mB fn) /\ (fn.name == "runtime.NumGoroutine") = false
 D : ∀ f d, X.D f = some d -> cS X.P f fun args => (d args).map fun r => (True, r)
 H : yf X.H
structure nE (X : DX) (call : Nat -> Func -> List SV -> cg -> rV) : Prop where
 ok : ∀ f fn args s r s', X.I f = some fn -> call f fn args s = .ok r s' -> GE s.nx s.en ->
  s.nx <= s'.nx /\ GE s'.nx s'.en /\ (∀ id, id < s.nx -> id ∉ s'.wr -> s'.en.at id = s.en.at id) /\
  ∀ (E : Env) (M : Nat) (σ : St) (ro : RO) (own : Own) (w : World) (a : Act) (vals : Array Value), s'.nx <= M -> bA E ro own (lU M s.en σ) w a -> aQ ro own args vals.toList ->
   Calls X.P f vals w fun e w' => ∃ v, e = .returned v /\ ∃ ro2 own2, own.le own2 /\ ga ro ro2 /\ bA E ro2 own2 (lU M s'.en σ) w' a /\ Rel ro2 own2 r v
structure tN (X : DX) (N : Nat) (ops : Array Oper) (i : Nat) (s s' : cg) (R : List Loc) (ws : List (Loc × Item)) : Prop where
 nx : s.nx <= s'.nx
 ge : GE s'.nx s'.en
 b0 : s'.b0 = s.b0
 P8 : ∀ id, id < s.b0 -> id ∉ s'.wr -> s'.en.at id = s.en.at id /\ id ∉ s.wr
 mx : ∀ M σ, s'.nx <= M -> mix M s' σ = (mix M s σ).apply ws
 st : ∀ (E : Env) M σ, E.N = N -> s'.nx <= M -> nV E X.P ops i (mix M s σ) R ws
section
variable {X : DX} {N : Nat} {ops : Array Oper} {i : Nat} {o : Oper}
theorem Hd {s s':cg} {R:List Loc} {ws0:List (Loc×Item)} (hg:GE s.nx s.en) (hb:s.b0<=s.nx) (hs:s.app (ws0.map (iy cA))=some s')
 (base: ∀(E:Env) M σ,E.N=N->s'.nx<=M-> ∀(s'':St),(∀l∈R,s'' l=mix M s σ l)-> ∀(w:World) (a:Act) (Q:Exit->Act->World->Prop) (K:Act->World->Prop),dL E s'' w a->(∀a' w',dL E (s''.apply ws0) w' a'->K a' w')->wpOp X.P ops Q i K a w):
 tN X N ops i s s' R (ws0.map (iy cA)):=by
 have ap:=MC hs;refine⟨ap.nx,ap.ge hg,ap.b0,fun id h1 h2=>ap.P8 id h1 (by omega) h2,fun M σ hM=>YE ap hg hM,fun E M σ hN hM s'' hag w a Q K hsim hK=> ?_⟩;exact base E M σ hN hM s'' hag w a Q K hsim fun a' w' h'=>hK a' w' (h'.weaken (wq cA ws0 fun l=>Ln.refl _))
def rU (N:Nat) (ops:Array Oper) (o:Oper) (s:cg) (R0:List Loc) (b:Bool):Prop:= ∀(E:Env) M σ,E.N=N-> ∀(s'':St) (w:World) (a:Act),(∀l∈R0,s'' l=mix M s σ l)->dL E s'' w a->Region.wanted o (yielded ops a.tmps)=b
theorem op_one (hH:yf X.H) {s s':cg} {R0 R:List Loc} {ws0:List (Loc×Item)} (hoi:ops[i]?=some o) (hw:rU N ops o s R0 true) (hg:GE s.nx s.en) (hb:s.b0<=s.nx) (hrun:(Zo X.P X.H N s.nx o).lh s R0=some (R,ws0)) (hs:s.app (ws0.map (iy cA))=some s') (hR:nK s'.nx R=true):
 tN X N ops i s s' R (ws0.map (iy cA)):=by
 obtain⟨h1,h2,h3⟩:=Tx.ki hrun;refine Hd hg hb hs fun E M σ hN hM s'' hag w a Q K hsim hK=> ?_
 unfold wpOp;rw [hoi];simp only [hw E M σ hN s'' w a (fun l hl=>hag l (h3 l hl)) hsim,if_true];left;obtain⟨ro,own,hsg⟩:=hsim;have hok:(Zo X.P X.H E.N s.nx o).ok s'' ws0:=by
  rw [hN];exact Tx.local _ (fun l hl=>by rw [hag l (h2 l hl),CO (kQ hM (mg hR l (h2 l hl)))]) _ h1
 exact Oper.wp_mono (fun a' w' h'=>hK a' w' h') (VE hsg hH hok Q)
theorem Ov {s s':cg} {R0:List Loc} (hoi:ops[i]?=some o) (hd: ∀d,o.dst=some d->d<N) (hw:rU N ops o s R0 false) (hg:GE s.nx s.en) (hb:s.b0<=s.nx) (hs:s.app ((lL o.dst).map (iy cA))=some s'):
 tN X N ops i s s' R0 ((lL o.dst).map (iy cA)):=by
 refine Hd hg hb hs fun E M σ hN hM s'' hag w a Q K hsim hK=> ?_
 unfold wpOp;rw [hoi];simp only [hw E M σ hN s'' w a hag hsim,Jr,if_false];refine hK _ _ ?_;obtain⟨ro,own,hsg⟩:=hsim;cases hdd:o.dst with
 |none=>exact⟨ro,own,hsg⟩
 |some d=>exact⟨ro,own,hsg.put (by rw [hN];exact hd d hdd) (.bp _ [] #[] rfl (by simp))⟩
theorem JZ {E:Env} {ro:RO} {own:Own} {s:cg} {s'':St} {w:World} {a:Act} {f:Nat} {ca cb:List SV} {c:Call} (h:ss s o=some (f,ca,cb,c)) (hag: ∀t,c.callee= .value (.tmp t)->s'' (.tm t)=s.get (.tm t)) (hg:bA E ro own s'' w a):
 ∃g va vb,o.op= .call c/\c.callee= .value g/\a.eval g= .func (.func f) va vb/\aQ ro own ca va.toList/\aQ ro own cb vb.toList:=by
 unfold ss at h;split at h
 case h_2=>cases h
 rename_i c' hop;split at h
 . rename_i f' hcc;simp only [J3,Q4]at h;obtain⟨rfl,rfl,rfl,rfl⟩:=h;exact⟨_, #[], #[],hop,hcc,rfl,trivial,trivial⟩
 . rename_i t hcc;split at h
   case h_2=>cases h
   rename_i f' ca' cb' ht;simp only [J3,Q4]at h;obtain⟨rfl,rfl,rfl,rfl⟩:=h;obtain⟨va,vb,hv,hva,hvb⟩:=Hc (hg.tm t _ (by rw [hag t hcc];exact ht));exact⟨_,va,vb,hop,hcc,hv,hva,hvb⟩
 . cases h
theorem zC {E:Env} {ro:RO} {own:Own} {s:cg} {s'':St} {M:Nat} {σ:St} {w:World} {a:Act} {f:Nat} {fn:Func} {ca cb xs:List SV} {c:Call} {R0 R:List Loc} (h:ss s o=some (f,ca,cb,c)) (hrd:(jI c.args.toList fun xs=> .done [(.tm 0, .v (.bp xs))]).lh s (Gz c R0)=some (R,[(.tm 0, .v (.bp xs))])) (htm: ∀l∈R,s'' l=mix M s σ l) (hR: ∀l∈R,gF M l)
 (hg:bA E ro own s'' w a) (hf:X.P.funcs[f]?=some fn/\fn.body.isSome=true/\(fn.name== "runtime.NumGoroutine")=false):
 ∃vals:Array Value,(execOp a.eval o).run X.P w= .ok (.enter f vals) w/\aQ ro own (ca++xs++cb) vals.toList:=by
 obtain⟨h1,h2,h3⟩:=Tx.ki hrd;have hag: ∀t,c.callee= .value (.tmp t)->s'' (.tm t)=s.get (.tm t):=fun t hc=>by
  have hm:Loc.tm t∈R:=h3 _ (by simp [Gz,hc]);rw [htm _ hm];rfl
 obtain⟨g,va,vb,hop,hcc,hv,hva,hvb⟩:=JZ h hag hg;have hok:(jI c.args.toList fun xs=>Tx.done [(.tm 0, .v (.bp xs))]).ok s'' [(.tm 0, .v (.bp xs))]:=
  Tx.local _ (fun l hl=>by rw [htm l (h2 l hl),CO (hR l (h2 l hl))]) _ h1
 obtain⟨xs',hxs,hws⟩:=ku hg hok;have hx:xs'=xs:=by
  have:[(Loc.tm 0,Item.v (.bp xs'))]=[(Loc.tm 0,Item.v (.bp xs))]:=hws;simp at this;exact this
 subst hx;refine⟨va++c.args.map a.eval++vb,?_,?_⟩
 . unfold execOp;simp only [hop,resolve,hcc,hv,Deferred.ofValue,Sem.run_bind,Sem.run_pure,Result.andThen_ok,invoke];exact uJ hf.1 hf.2.1 hf.2.2
 . simp only [Array.toList_append,Array.toList_map];exact(hva.append hxs).append hvb
theorem vL {ro ro':RO} {own own':Own} {x:SV} {v:Value} (h:Rel ro own x v) (hc:wh x=true):Rel ro' own' x v:=by
 cases x<;>simp [wh]at hc<;>(cases h;first|(constructor;done)|(constructor<;>assumption))
theorem yu : ∀{l:List ar},uM l=true-> ∀k sv,flat l k=some sv->wh sv=true
 |[],_,k,sv,h=>by simp [flat]at h
 | .s v::r,hc,k,sv,h=>by
  simp only [uM,J2]at hc;cases k with
  |zero=>rw [cC]at h;simp at h;subst h;exact hc.1
  |succ k=>rw [cB]at h;exact yu hc.2 k sv h
 | .a n es f::r,hc,_,_,_=>by simp [uM]at hc
theorem By {ro ro':RO} {own own':Own} {l:List ar} {v:Value} (h:Rel ro own (.agg l) v) (hc:uM l=true):Rel ro' own' (.agg l) v:=by
 obtain⟨cs,hv,hs,hh⟩:=cU h;rw [hv];exact .agg _ _ _ hs fun k sv hk=>vL (hh k sv hk) (yu hc k sv hk)
theorem Fe : ∀{l:List SV},Az l=true-> ∀(i:Nat) (sv:SV),l[i]?=some sv->(∃g,sv= .agg g/\uM g=true)\/wh sv=true
 |x::r,hc,i,sv,h=>by
  have hcr:Az r=true/\((∃g,x= .agg g/\uM g=true)\/wh x=true):=by
   cases x<;>simp only [Az,J2]at hc<;>first|exact⟨hc.2, .inl ⟨_,rfl,hc.1⟩⟩|exact⟨hc.2, .inr hc.1⟩
  cases i with
  |zero=>simp at h;subst h;exact hcr.2
  |succ i=>simp at h;exact Fe hcr.1 i sv h
 |[],_,i,sv,h=>by simp at h
theorem PE {ro ro':RO} {own own':Own} {x:SV} {v:Value} (h:Rel ro own x v) (hc:VD x=true):Rel ro' own' x v:=by
 cases x
 case agg l=>exact By h hc
 case bp l=>
  obtain⟨vs,hv,hs,hh⟩:=jt h;rw [hv];refine .bp _ _ _ hs fun i sv hi=> ?_
  rcases Fe hc i sv hi with⟨g,rfl,hg⟩|h1
  . exact By (hh i _ hi) hg
  . exact vL (hh i sv hi) h1
 all_goals exact vL h hc
theorem NT {s s':cg} {R0 R R2:List Loc} {f:Nat} {ca cb xs xs':List SV} {c:Call} {d:List SV->Option SV} {r:SV} {wsr:List (Loc×Item)} (hX:An X) (hoi:ops[i]?=some o) (hd: ∀d,o.dst=some d->d<N) (hw:rU N ops o s R0 true) (hg:GE s.nx s.en) (hb:s.b0<=s.nx)
 (hc:ss s o=some (f,ca,cb,c)) (hrd:(jI c.args.toList fun xs=> .done [(.tm 0, .v (.bp xs))]).lh s (Gz c R0)=some (R,[(.tm 0, .v (.bp xs))]))
 (hfd:X.D f=some d) (hres:(cn (ca++xs++cb) fun xs' ws=> .done ((.tm 0, .v (.bp xs'))::ws)).lh s R=some (R2,(.tm 0, .v (.bp xs'))::wsr)) (hdr:d (xs'.map (norm cA))=some r)
 (hs:s.app ((IP r wsr o.dst).map (iy cA))=some s') (hR:nK s'.nx R2=true):
 tN X N ops i s s' R2 ((IP r wsr o.dst).map (iy cA)):=by
 obtain⟨h1,h2,h3⟩:=Tx.ki hrd;obtain⟨k1,k2,k3⟩:=Tx.ki hres;refine Hd hg hb hs fun E M σ hN hM s'' hag w a Q K hsim hK=> ?_
 have hloc: ∀l∈R2,gF M l:=fun l hl=>kQ hM (mg hR l hl)
 unfold wpOp;rw [hoi];simp only [hw E M σ hN s'' w a (fun l hl=>hag l (k3 l (h3 l (by unfold Gz;split<;>simp [hl])))) hsim,if_true];left;obtain⟨ro,own,hsg⟩:=hsim;have hfn:=hX.D f d hfd;obtain⟨fn,e1,e2,e3⟩:=hfn.fn;obtain⟨vals,hrun,hrel⟩:=zC (o:=o) (X:=X) (M:=M) (σ:=σ) hc hrd (fun l hl=>hag l (k3 l hl)) (fun l hl=>hloc l (k3 l hl)) hsg ⟨e1,e2,e3⟩;have hok:(cn (ca++xs++cb) fun xs' ws=> .done ((.tm 0, .v (.bp xs'))::ws)).ok s'' ((.tm 0, .v (.bp xs'))::wsr):=
  Tx.local _ (fun l hl=>by rw [hag l (k2 l hl),CO (hloc l (k2 l hl))]) _ k1
 obtain⟨xs2,ws2,ro2,hk2,hle,hs2,hr2⟩:=iw (s:=s'') ⟨fun _ _=>rfl,fun _=> .inl rfl⟩ hsg hrel hok;have hq:(Loc.tm 0,Item.v (.bp xs2))::ws2=(Loc.tm 0,Item.v (.bp xs'))::wsr:=hk2;simp only [Qw,Q4,Item.v.injEq,SV.bp.injEq,true_and]at hq;obtain⟨rfl,rfl⟩:=hq;have hr3:aQ ro2 Own.empty (xs2.map (norm cA)) vals.toList:=by
  have: ∀{l:List SV} {vs:List Value},aQ ro2 Own.empty l vs->aQ ro2 Own.empty (l.map (norm cA)) vs:=by
   intro l
   induction l with
   |nil=>intro vs h;exact h
   |cons x r ih=>
    intro vs h
    match vs,h with
    |v::vr,h=>exact⟨nb cA x _ _ _ h.1,ih h.2⟩
  exact this hr2
 have hcalls:=hfn.calls (xs2.map (norm cA)) True r (by simp [hdr]) trivial ro2 w vals hs2.cJ hr3;unfold Oper.wp;rw [hrun];show Calls X.P f vals w _
 refine hcalls.mono ?_;rintro e w' ⟨v,R',rfl,hv,hRR,hok2,hold,hbel⟩;show K (a.put o.dst v) w'
 refine hK _ _ ?_;have put: ∀{s1:St} {ro1:RO},bA E ro1 own s1 w' a->Rel ro1 own r v->dL E (s1.apply (yj o.dst r)) w' (a.put o.dst v):=by
  intro s1 ro1 h hr;unfold yj;cases hdd:o.dst with
  |none=>exact⟨ro1,own,h⟩
  |some d=>exact⟨ro1,own,h.put (by rw [hN];exact hd d hdd) hr⟩
 unfold IP;cases hsc:VD r with
 |true=>
  have hbase:bA E ro own s'' w' a:=hsg.called hbel (.refl _) (fun b o' u hu=>by
   have:=hsg.cJ b o' u hu;have hlt:b<w.heap.size:=block_lt_of_cell this.1;have hbk:=hbel.block b hlt;exact this.of_heap hbk) (fun _ _ _=>rfl)
  exact put hbase (PE hv hsc)
 |false=>
  simp only;rw [aM];exact put (hs2.called hbel hRR hok2 hold) (hv.own (Own.empty_le _))
end
end Go.Sx
