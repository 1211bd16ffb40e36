import Derived.Test.YtpjiopgakifhaaaGreatRA
import Derived.Test.YtpjiopgakifhaaaGreatRE
set_option linter.constructorNameAsVariable false
set_option linter.unusedSectionVars false
set_option linter.unusedSimpArgs false
set_option linter.unusedVariables false
set_option maxRecDepth 100000
namespace Go.Sx
open Go Go.RowKit
variable [bW]
section
variable {E : Env} {P : Program} {ro : RO} {own : Own} {s : St} {w : World} {a : Act}
theorem Ez(h:bA E ro own s w a){o:Oper}{c:Nat}{T:TypeId}{r:Option Operand}(x:o.op=.makeMap T r){ws}(i:(vH P E.N c o.dst T r).ok s ws):fW E P o s w a ws:=by
 unfold vH at i;split at i
 case h_2=>exact i.elim
 rename_i k e d L y;split at i
 case isFalse=>exact i.elim
 rename_i u;obtain⟨z,i⟩:=kC i;have p:=i.symm
 change ws=_ at p
 subst p;intro Q;unfold Oper.wp;have q:(execOp a.eval o).run P w=.ok (.value (.map (some w.heap.size))) (w.alloc (.map #[] 0)):=by
  unfold execOp;simp[x,Instr.makeMap]
 rw[q];have A:=h.WY (.map #[] 0);have B:(w.alloc (.map #[] 0)).heap[w.heap.size]?=some (.map #[] 0):=by unfold World.alloc;simp only;rw[Qv,JB rfl]
 obtain⟨j,C,D,_,F⟩:=A.Ow (n0:=0) (e0:=2) (g0:=λ_=>[]) z (b:=w.heap.size) h.base B (by simp) (.map #[] 0 0 _ rfl (by simp)) (λid m n e f G H J K=>by have:=h.map_lt G H J K;omega);show dL E _ _ (a.put o.dst _)
 rw[y];refine⟨ro,j,?_⟩;show bA E ro j ((s.apply [(.mt c,.m (some gd)),(.sg c 0,.s (.a 0 2 λ_=>[]))]).put (.tm d) (.v (.z9 c))) _ _
 exact F.put u (.z9 _ _ _ D)
theorem GW{d:TypeDesc}{c k:SV}{j v:Value}{b:Bool}(p:(∃i n,d=.int i/\c=.int i n)\/(∃l,d=.string/\c=.str l))(m:Rel ro own c j)(o:Rel ro own k v)(h:sameKey c k=some b):Instr.sameNow d j v=some b:=by
 rcases p with⟨i,n,rfl,rfl⟩|⟨l,rfl,rfl⟩
 . rw[aK m];cases k<;>simp[sameKey]at h
   rename_i q r;obtain⟨rfl,rfl⟩:=h;rw[aK o];simp[Instr.sameNow]
 . rw[dR m];cases k<;>simp[sameKey]at h
   rename_i u;subst h;rw[dR o];simp only[Instr.sameNow,J3];rw[Xm,MapKept.bytes_beq,JN];exact⟨λe=>by injection e with e;simpa using e,λe=>by rw[e]⟩
theorem Et{k:TypeId}{b:SV}(h:Ie P k b=true):∃c,P.underlying k=some c/\((∃d n,c=.int d/\b=.int d n)\/(∃l,c=.string/\b=.str l)):=by
 unfold Ie at h;split at h
 . split at h
   . rename_i d n e hu;simp at h;subst h;exact⟨_,hu,.inl ⟨_,_,rfl,rfl⟩⟩
   . cases h
 . split at h
   . exact⟨_,by assumption,.inr ⟨_,rfl,rfl⟩⟩
   . cases h
 . cases h
theorem Ca{d:TypeDesc}{c:SV}{j:Value}(x:(∃y n,d=.int y/\c=.int y n)\/(∃l,d=.string/\c=.str l))(z:Rel ro own c j){f:Nat->List SV}:∀(es:List MapEntry)(i:Nat)(r:Option Nat),yM f c es.length i=some r->(∀(t:Nat)(e:MapEntry),es[t]?=some e->∃k v,f (i+t)=[k,v]/\Rel ro own k e.key/\Rel ro own v e.val)->
 (r=none/\Instr.findNow d j es i=some none)\/∃(t:Nat)(e:MapEntry),r=some (i+t)/\es[t]?=some e/\Instr.findNow d j es i=some (some (i+t,e.val))
 |[],i,r,h,_=>by
  simp[yM]at h;exact .inl ⟨h.symm,rfl⟩
 |e::es,i,r,h,hf=>by
  obtain⟨k,v,f1,f2,f3⟩:=hf 0 e rfl;simp only[Jc,yM]at h;rw[show f i=[k,v]from f1]at h;simp only at h;cases m:sameKey c k with
  |none=>rw[m]at h;cases h
  |some b=>
   rw[m]at h;have o:=GW x z f2 m;cases b with
   |true=>
    simp at h;exact .inr ⟨0,e,by simp[h],rfl,by simp[Instr.findNow,o]⟩
   |false=>
    simp only at h;rcases Ca x z es (i+1) r h (λt p A=>by
     obtain⟨B,C,D,F,G⟩:=hf (t+1) p (by simpa using A);exact⟨B,C,by rw[show i+1+t=i+(t+1)from by omega];exact D,F,G⟩)with⟨q,u⟩|⟨t,p,q,u,H⟩
    . exact .inl ⟨q,by simp[Instr.findNow,o,u]⟩
    . exact .inr ⟨t+1,p,by rw[q,show i+1+t=i+(t+1)from by omega],by simpa using u,by simp only[Instr.findNow,o];rw[H,show i+1+t=i+(t+1)from by omega]⟩
theorem run_checkKey{k:TypeId}{d:TypeDesc}{c:SV}{h:Value}(i:P.underlying k=some d)(m:(∃e n,d=.int e/\c=.int e n)\/(∃l,d=.string/\c=.str l))(j:Rel ro own c h)(b:Bool)(n:Nat):(Instr.checkKey b (n+1) k h).run P w=.ok () w:=by
 rcases m with⟨e,n,rfl,rfl⟩|⟨l,rfl,rfl⟩
 . rw[aK j];simp[Instr.checkKey,run_underlying i]
 . rw[dR j];simp[Instr.checkKey,run_underlying i]
theorem Ol{v:Value}(h:Rel ro own .km v):v=.map none:=by cases h;rfl
theorem nR{v:Value}(h:Rel ro own .emp v):∃A,v=.slice (some A) 0 0:=by cases h;exact⟨_,rfl⟩
theorem P7{c:Nat}{v:Value}(h:Rel ro own (.z9 c) v):∃b,own.env c 0=some (some b)/\v=.map (some b):=by cases h;exact⟨_,by assumption,rfl⟩
theorem Gd{o:Obj}{n:Nat}{f:Nat->List SV}(h:mD ro own o n 2 f):∃es b,o=.map es b/\es.size=n/\∀(i:Nat)(e:MapEntry),es[i]?=some e->∃k v,f i=[k,v]/\Rel ro own k e.key/\Rel ro own v e.val:=by
 cases h with
 |map es b _ _ h c=>exact⟨es,b,rfl,h,c⟩
theorem P6{o:Obj}{n:Nat}{f:Nat->List SV}(h:mD ro own o n 3 f):∃(l:List UInt8)(pos:Nat),o=.stringIter ⟨l.toArray⟩ pos/\∃k v,f 0=[k,v]/\Rel ro own k (.string ⟨l.toArray⟩)/\Rel ro own v (.int .i64 (pos:Int)):=by
 cases h with
 |iter l pos _ _ b c=>exact⟨l,pos,rfl,b⟩
theorem I4(h:bA E ro own s w a){o:Oper}{T:TypeId}{x d:Operand}{Z C:SV}(D:o.op=.lookup T x d false)(hx:Rel ro own Z (a.eval x))(j:Rel ro own C (a.eval d)){ws}(c:(xw P E.N o.dst T Z C).ok s ws):fW E P o s w a ws:=by
 unfold xw at c;split at c
 case h_2=>exact c.elim
 rename_i k e F;split at c
 case h_2=>exact c.elim
 rename_i zl hz;split at c
 case h_2=>exact c.elim
 rename_i G;obtain⟨kt,hu,hd⟩:=Et G;obtain⟨z1,_,_⟩:=nF (ro:=ro) (own:=own) hz;have u:∀b,(Instr.checkKey b 10000 k (a.eval d)).run P w=.ok () w:=λb=>run_checkKey hu hd j b 9999
 split at c
 . have z:a.eval x=.map none:=Ol hx;refine aP h (v:=.bool false) ?_ (.ff _) c;unfold execOp;have H:Instr.findNow kt (a.eval d) [] 0=some none:=rfl;simp[D,Instr.lookup,z,run_underlying F,run_underlying hu,u,Instr.findKey,H,z1 w,Sem.run_bind]
 . rename_i id;obtain⟨b,hb,z⟩:=P7 hx;obtain⟨m,hm,c⟩:=fG c;split at c
   case isFalse=>exact c.elim
   rename_i J;obtain⟨n,f,K,c⟩:∃n f,s (.sg id 0)=.s (.a n 2 f)/\(match yM f C n 0 with
    |some none=>bm E.N o.dst .ff
    |some (some i)=>match f i with
     |[_,v]=>bm E.N o.dst v
     |_=>.fail
    |none=>.fail:Tx).ok s ws:=by
    simp only[Dx,Tx.ok]at c;split at c
    . rename_i x L;split at c
      . exact⟨_,_,L,c⟩
      . exact c.elim
    . exact c.elim
   obtain⟨b',o',M,g2,g3,ac,O,ad⟩:=(h.mp.at_ id m n 2 f hm J K).at_;rw[hb]at M;simp at M;subst M;obtain⟨es,R,rfl,g4,g5⟩:=Gd O;have p:(getObj b).run P w=.ok (.map es R) w:=MapKept.run_getObj_map g3;have hn:es.toList.length=n:=by simpa using g4
   have hf:=λr hr=>Ca hd j (f:=f) es.toList 0 r (by rw[hn];exact hr) (λt e ht=>by
    obtain⟨k',v',A,X,B⟩:=g5 t e (by simpa using ht);exact⟨k',v',by rw[Jg];exact A,X,B⟩)
   split at c
   . rename_i y;rcases hf _ y with⟨_,q⟩|⟨t,e,q,_⟩
     . refine aP h (v:=.bool false) ?_ (.ff _) c;unfold execOp;simp[D,Instr.lookup,z,run_underlying F,run_underlying hu,u,p,Instr.findKey,q,z1 w,Sem.run_bind]
     . cases q
   . rename_i i y;rcases hf _ y with⟨q,_⟩|⟨t,e,A,X,B⟩
     . cases q
     . simp at A;rw[Jg]at B;subst A;obtain⟨k',v',p1,p2,p3⟩:=g5 i e (by simpa using X);rw[p1]at c;refine aP h (v:=e.val) ?_ p3 c;unfold execOp;simp[D,Instr.lookup,z,run_underlying F,run_underlying hu,u,p,Instr.findKey,B,Sem.run_bind]
   . exact c.elim
 . exact c.elim
theorem bA.MN(h:bA E ro own s w a){y b n:Nat}{m:lZ}{f:Nat->List SV}{ob ob':Obj}{n' e':Nat}{f':Nat->List SV}{eo:Nat}(hm:s (.mt y)=.m (some m))(z:cz m=true)(J:s (.sg y 0)=.s (.a n eo f))(hb:own.env y 0=some (some b))(hB:E.B<=b)(hh:w.heap[b]?=some ob)(D:∀c t fr,ob≠ .cells c t fr)(ac:∀c t fr,ob'≠ .cells c t fr)
 (N:mD ro own ob' n' e' f'):
 bA E ro own (s.put (.sg y 0) (.s (.a n' e' f'))) {w with heap:=w.heap.setIfInBounds b ob'} a:=by
 have ad:=(K3.1 hh).1;have A:∀k,k≠b->(w.heap.setIfInBounds b ob')[k]?=w.heap[k]?:=λk hk=>by rw[Ya (Yv hk)]
 have al:(w.heap.setIfInBounds b ob')[b]?=some ob':=by rw[Yi ad]
 have p:∀i,(s.put (.sg y 0) (.s (.a n' e' f'))) (.mt i)=s (.mt i):=λi=>St.bh _ _ (by simp)
 have K:∀i x,s (.mt i)=.m (some x)->(s.put (.sg y 0) (.s (.a n' e' f'))).az i x.ns=s.az i x.ns:=λi x u=>by
  by_cases e:i=y
  . subst e;rw[hm]at u;simp at u;subst u;have:m.ns=0:=by simp[cz]at z;exact z.2
    rw[this];rfl
  . exact St.dc λq _=>St.bh _ _ (by simp[e])
 refine {below:=h.below.trans ⟨rfl,rfl,rfl,by simp,λk hk=>A k (by omega)⟩,base:=by simpa using h.base,defs:=h.defs,size:=h.size,tm:=λt sv ht=>h.tm t sv (by rw[St.bh _ _ (by simp)]at ht;exact ht),cJ:=λd o v hv=>?_,uU:=h.uU,gK:=λi x u=>?_,fr:=λi u=>h.fr i (by rw[p]at u;exact u),mY:=λi x u=>h.mY i x (by rw[p]at u;exact u),inj:=λi O m1 m2 d C F=>h.inj i O m1 m2 d (by rw[p]at C;exact C) (by rw[p]at F;exact F),kk:=h.kk,mp:=⟨λi x n1 e1 f1 C F G=>?_,λi O m1 m2 d n1 e1 f1 n2 e2 f2 C F G h4 q1 q2 h5 h6=>?_⟩}
 . have:=h.cJ d o v hv;have L:d≠b:=by
    rintro rfl;have:=this.1;simp only[World.cell?,hh]at this;cases ob<;>first|exact D _ _ _ rfl|simp at this
   exact this.of_heap (A d L)
 . rw[p]at u;rw[K i x u];have H:=h.gK i x u;refine {st:=H.st,es:=H.es,row:=H.row,plain:=H.plain,there:=H.there,nil:=H.nil,live:=λd L hz=>?_,dn:=H.dn};have hl:=H.live d L hz;obtain⟨cs,e',lo,aq,R,r⟩:=hl.body;have M:d≠b:=by rintro rfl;rw[hh]at R;simp at R;exact D _ _ _ R
   exact⟨hl.low,hl.apart,cs,e',lo,aq,(A d M).trans R,r⟩
 . rw[p]at C
   by_cases e:i=y
   . subst e;rw[St.cQ]at G;simp only[Item.s.injEq,ar.a.injEq]at G;obtain⟨rfl,rfl,rfl⟩:=G;exact⟨b,ob',hb,hB,al,ac,N,(h.mp.at_ i m _ _ _ hm z J).at_.choose_spec.choose_spec.2.2.2.2.2⟩
   . rw[St.bh _ _ (by simp[e])]at G;obtain⟨d,o1,g1,g2,g3,g4,g5,g6⟩:=(h.mp.at_ i x n1 e1 f1 C F G).at_;have M:d≠b:=by
      rintro rfl;exact e (h.mp.inj i y x m d _ _ _ _ _ _ C hm F z G J g1 hb)
     exact⟨d,o1,g1,g2,(A d M).trans g3,g4,g5,g6⟩
 . rw[p]at C F;have key:∀j X Z fj,(s.put (.sg y 0) (.s (.a n' e' f'))) (.sg j 0)=.s (.a X Z fj)->∃X Z fj,s (.sg j 0)=.s (.a X Z fj):=λj X Z fj hj=>by
    by_cases e:j=y
    . subst e;exact⟨_,_,_,J⟩
    . rw[St.bh _ _ (by simp[e])]at hj;exact⟨_,_,_,hj⟩
   obtain⟨_,_,_,p1⟩:=key i _ _ _ q1;obtain⟨_,_,_,p2⟩:=key O _ _ _ q2;exact h.mp.inj i O m1 m2 d _ _ _ _ _ _ C F G h4 p1 p2 h5 h6
theorem Ai(h:bA E ro own s w a){o:Oper}{T:TypeId}{x key val:Operand}{sx u y:SV}(ho:o.op=.mapUpdate T x key val)(hx:Rel ro own sx (a.eval x))(d:Rel ro own u (a.eval key))(z:Rel ro own y (a.eval val)){ws}(c:(qy P o.dst T sx u y).ok s ws):fW E P o s w a ws:=by
 unfold qy at c;split at c
 case h_2=>exact c.elim
 rename_i k e id K hT;split at c
 case h_2=>exact c.elim
 rename_i A ac;simp only[J2]at A;obtain⟨kt,hu,hd⟩:=Et A.1;have L:∀b,(Instr.checkKey b 10000 k (a.eval key)).run P w=.ok () w:=λb=>run_checkKey hu hd d b 9999
 obtain⟨b,J,hv⟩:=P7 hx;obtain⟨m,hm,c⟩:=fG c;split at c
 case isFalse=>exact c.elim
 rename_i B;simp only[Dx,Tx.ok]at c;split at c
 case h_2=>exact c.elim
 rename_i x0 C;split at c
 case h_2=>exact c.elim
 rename_i n f;split at c
 case h_2=>exact c.elim
 rename_i M;have D:=c.symm
 change ws=_ at D
 subst D;obtain⟨b',o',N,g2,O,R,X,ad⟩:=(h.mp.at_ id m n 2 f hm B C).at_;rw[J]at N;simp at N;subst N;obtain⟨es,p,rfl,Z,g5⟩:=Gd X;have F:(getObj b).run P w=.ok (.map es p) w:=MapKept.run_getObj_map O;have G:∀o,(setObj b o).run P w=.ok () {w with heap:=w.heap.setIfInBounds b o}:=λo=>MapKept.run_setObj_map o O
 have hn:es.toList.length=n:=by simpa using Z
 have hf:=Ca hd d (f:=f) es.toList 0 none (by rw[hn];exact M) (λt e ht=>by
  obtain⟨k',v',q1,q2,q3⟩:=g5 t e (by simpa using ht);exact⟨k',v',by rw[Jg];exact q1,q2,q3⟩)
 rcases hf with⟨_,q⟩|⟨t,e,q,_⟩
 case inr=>cases q
 intro Q;unfold Oper.wp;have H:(execOp a.eval o).run P w=.ok .skip {w with heap:=w.heap.setIfInBounds b (.map (es.push {key:=a.eval key,val:=a.eval val,born:=p}) (p+1))}:=by
  unfold execOp;simp[ho,Instr.mapUpdate,hv,run_underlying hT,run_underlying hu,L,F,G,Instr.findKey,q,Sem.run_bind]
 rw[H];refine⟨ro,own,?_⟩;show bA E ro own (s.put (.sg id 0) (.s (.a (n+1) 2 λj=>match Nat.beq j n with|true=>[u,y]|false=>f j))) _ _
 rw[K];refine h.MN (n':=n+1) (e':=2) (f':=λj=>match Nat.beq j n with|true=>[u,y]|false=>f j) (ob':=.map (es.push {key:=a.eval key,val:=a.eval val,born:=p}) (p+1)) hm B C J g2 O R (by simp) (.map _ _ _ _ (by rw[Array.size_push,Z]) λi e r=>?_);rw[Qv]at r;have al:es.size=n:=Z
 by_cases e1:i=es.size
 . rw[JB e1]at r;simp at r;subst r;refine⟨u,y,?_,d,z⟩;have:i=n:=by omega
   subst this;simp
 . rw[JA e1]at r;obtain⟨k',v',p1,p2,p3⟩:=g5 i e r;refine⟨k',v',?_,p2,p3⟩;have:Nat.beq i n=false:=by
    cases J:Nat.beq i n with
    |false=>rfl
    |true=>have:=Jd J;omega
   simp only[this];exact p1
theorem WZ(h:bA E ro own s w a){o:Oper}{c:Nat}{T:TypeId}{x:Operand}{r:SV}(u:o.op=.range T x)(y:Rel ro own r (a.eval x)){ws}(j:(Cx P E.N c o.dst T r).ok s ws):fW E P o s w a ws:=by
 unfold Cx at j;split at j
 case h_2=>exact j.elim
 rename_i l d z A;split at j
 case isFalse=>exact j.elim
 rename_i q;obtain⟨B,j⟩:=kC j;have k:=j.symm
 change ws=_ at k
 subst k;have C:a.eval x=.string ⟨l.toArray⟩:=dR y;intro Q;unfold Oper.wp;have p:(execOp a.eval o).run P w=.ok (.value (.pointer (some ⟨w.heap.size,0,none⟩))) (w.alloc (.stringIter ⟨l.toArray⟩ 0)):=by
  unfold execOp;simp[u,C,Instr.range,run_underlying z]
 rw[p];have D:=h.WY (.stringIter ⟨l.toArray⟩ 0);have F:(w.alloc (.stringIter ⟨l.toArray⟩ 0)).heap[w.heap.size]?=some (.stringIter ⟨l.toArray⟩ 0):=by unfold World.alloc;simp only;rw[Qv,JB rfl]
 obtain⟨i,G,H,J,K⟩:=D.Ow (n0:=1) (e0:=3) (g0:=λ_=>[.str l,.int .i64 0]) B (b:=w.heap.size) h.base F (by simp) (.iter l 0 1 _ ⟨_,_,rfl,.str _ _,.int _ _ _⟩ rfl) (λid m n e f L M O R=>by have:=h.map_lt L M O R;omega);show dL E _ _ (a.put o.dst _)
 rw[A];refine⟨ro,i,?_⟩;show bA E ro i ((s.apply [(.mt c,.m (some gd)),(.sg c 0,.s (.a 1 3 λ_=>[.str l,.int .i64 0]))]).put (.tm d) (.v (.ptr c 0))) _ _
 refine K.put q ?_;have:=Rel.ptr (ro:=ro) i c 0 _ H;rw[J]at this;exact this
theorem LD{c q:Nat}{v:Value}(h:Rel ro own (.ptr c q) v):∃b,own.env c 0=some (some b)/\v=.pointer (some ⟨b,own.st c q,none⟩):=by cases h;exact⟨_,by assumption,rfl⟩
theorem M8(h:bA E ro own s w a){o:Oper}{x:Operand}{sx:SV}(ho:o.op=.next x true)(hx:Rel ro own sx (a.eval x)){ws}(j:(Hh E.N o.dst sx).ok s ws):fW E P o s w a ws:=by
 unfold Hh at j;split at j
 case h_2=>exact j.elim
 rename_i id;obtain⟨m,hm,j⟩:=fG j;split at j
 case isFalse=>exact j.elim
 rename_i A;simp only[Dx,Tx.ok]at j;split at j
 case h_2=>exact j.elim
 rename_i x0 B;split at j
 case h_2=>exact j.elim
 rename_i f;split at j
 case h_2=>exact j.elim
 rename_i l pos K;split at j
 case h_2=>exact j.elim
 rename_i d hd;split at j
 case isFalse=>exact j.elim
 rename_i C;obtain⟨b,hb,L⟩:=LD hx;obtain⟨b',o',M,g2,O,R,X,Z⟩:=(h.mp.at_ id m 1 3 f hm A B).at_;rw[hb]at M;simp at M;subst M;obtain⟨p,e,rfl,k',v',q1,q2,q3⟩:=P6 X;rw[K]at q1;simp only[Qw,JK]at q1;obtain⟨rfl,rfl⟩:=q1;have hl:=dR q2;have hp:=aK q3;simp at hl hp;subst hl;have hp:e=pos:=by omega
 subst hp;rw[Z]at L;have y:(getObj b).run P w=.ok (.stringIter ⟨p.toArray⟩ e) w:=by simp[getObj,Sem.run,O]
 have D:∀o,(setObj b o).run P w=.ok () {w with heap:=w.heap.setIfInBounds b o}:=λo=>by simp[setObj,Sem.run,O]
 have F:(⟨p.toArray⟩:ByteArray).size=p.length:=by simp[ByteArray.size]
 split at j
 . rename_i c J;split at j
   case h_2=>exact j.elim
   rename_i ac;have q:=j.symm
   change ws=_ at q
   subst q;have ad:e<p.length:=(Jb.1 J).1;have r:e<(⟨p.toArray⟩:ByteArray).size:=by rw[F];exact ad
   have G:(⟨p.toArray⟩:ByteArray)[e]'r=c:=by
    have:=(Jb.1 J).2;rw[<-this];rfl
   have H:c.toNat<128:=Qk ac;have z:=decode_ascii (⟨p.toArray⟩:ByteArray) e r (by rw[G];exact H);rw[G]at z;intro Q;unfold Oper.wp;have u:(execOp a.eval o).run P w=.ok (.value (.tuple #[.bool true,.int .i64 e,.int .i32 c.toNat])) {w with heap:=w.heap.setIfInBounds b (.stringIter ⟨p.toArray⟩ (e+1))}:=by
    unfold execOp;simp[ho,L,Instr.next,y,D,r,z,goInt,Sem.run_bind]
   rw[u];show dL E _ _ (a.put o.dst _)
   rw[hd];refine⟨ro,own,?_⟩;show bA E ro own ((s.put (.sg id 0) (.s (.a 1 3 λ_=>[.str p,.int .i64 ((e+1:Nat):Int)]))).put (.tm d) (.v (.df [.tt,.int .i64 (e:Int),.int .i32 (c.toNat:Int)]))) _ _
   refine(h.MN (ob':=.stringIter ⟨p.toArray⟩ (e+1)) hm A B hb g2 O R (by simp) (.iter p (e+1) 1 _ ⟨_,_,rfl,.str _ _,.int _ _ _⟩ rfl)).put C ?_;refine .df _ _ _ rfl λi sv k=>?_
   match i,k with
   |0,k=>simp at k;subst k;exact .tt _
   |1,k=>simp at k;subst k;exact .int _ _ _
   |2,k=>simp at k;subst k;exact .int _ _ _
   |i+3,k=>simp at k
 . rename_i J;have q:=j.symm
   change ws=_ at q
   subst q;have r: ¬e<(⟨p.toArray⟩:ByteArray).size:=by rw[F];have:=List.getElem?_eq_none_iff.1 J;omega
   intro Q;unfold Oper.wp;have u:(execOp a.eval o).run P w=.ok (.value (.tuple #[.bool false])) w:=by
    unfold execOp;simp[ho,L,Instr.next,y,r,Sem.run_bind]
   rw[u];show dL E _ _ (a.put o.dst _)
   rw[hd];refine⟨ro,own,?_⟩;show bA E ro own (s.put (.tm d) (.v (.df [.ff]))) _ _
   refine h.put C ?_;refine .df _ _ _ rfl λi sv k=>?_
   match i,k with
   |0,k=>simp at k;subst k;exact .ff _
   |i+1,k=>simp at k
theorem RQ(h:bA E ro own s w a){o:Oper}{u:BinOp}{T U:TypeId}{x y:Operand}{B:SV}(H:o.op=.binOp u T x y U)(C:HO y=true)(D:HX P T=true)(m:Rel ro own B (a.eval x)){ws}(k:(IE E.N o.dst u B).ok s ws):fW E P o s w a ws:=by
 have q:a.eval y=.slice none 0 0:=by
  unfold HO at C;split at C
  . rfl
  . cases C
 obtain⟨e,hu⟩:∃e,P.underlying T=some (.slice e):=by
  unfold HX at D;split at D
  . exact⟨_,by assumption⟩
  . cases D
 obtain⟨b,d,i⟩:∃b,Rt B=some b/\((b=true/\a.eval x=.slice none 0 0)\/b=false/\∃A n c,a.eval x=.slice (some A) n c):=by
  unfold IE at k;split at k
  . rename_i b d;refine⟨b,d,?_⟩;unfold Rt at d;split at d
    . simp at d;exact .inl ⟨d,gh m⟩
    . simp at d;obtain⟨A,F⟩:=nR m;exact .inr ⟨d,A,0,0,F⟩
    . simp at d;rcases fH m with⟨z,_,_,i⟩|⟨_,G,_,_⟩
      . exact .inr ⟨d,_,_,_,i⟩
      . omega
    . simp at d;rcases dE m with⟨G,_⟩|⟨z,K,cap,L,i,_⟩
      . omega
      . exact .inr ⟨d,_,_,_,i⟩
    . cases d
  . rename_i b d;refine⟨b,d,?_⟩;unfold Rt at d;split at d
    . simp at d;exact .inl ⟨d,gh m⟩
    . simp at d;obtain⟨A,F⟩:=nR m;exact .inr ⟨d,A,0,0,F⟩
    . simp at d;rcases fH m with⟨z,_,_,i⟩|⟨_,G,_,_⟩
      . exact .inr ⟨d,_,_,_,i⟩
      . omega
    . simp at d;rcases dE m with⟨G,_⟩|⟨z,K,cap,L,i,_⟩
      . omega
      . exact .inr ⟨d,_,_,_,i⟩
    . cases d
  . exact k.elim
 have J:(eqGuard u T x y (a.eval x) (a.eval y)).run P w=.ok () w:=by
  rw[q];rcases i with⟨_,i⟩|⟨_,A,n,c,i⟩<;>rw[i]<;>exact fu rfl (by simp)
 have heq:(Op.equal T (a.eval x) (a.eval y)).run P w=.ok b w:=by
  rw[q];rcases i with⟨rfl,i⟩|⟨rfl,A,n,c,i⟩<;>rw[i]
  . show(Op.equalIn (9999+1) T _ _).run P w=_
    rw[Op.equalIn];simp only[Sem.run_bind,run_underlying hu,Result.andThen_ok];rfl
  . show(Op.equalIn (9999+1) T _ _).run P w=_
    rw[Op.equalIn];simp only[Sem.run_bind,run_underlying hu,Result.andThen_ok];rfl
 have p:∀{r:Value},(u=.eql/\r=.bool b)\/(u=.neq/\r=.bool (!b))->(binOp u T (a.eval x) (a.eval y)).run P w=.ok r w:=by
  intro r M;rw[q]at heq⊢;rcases i with⟨_,i⟩|⟨_,A,n,c,i⟩<;>rw[i]at heq⊢ <;>rcases M with⟨rfl,rfl⟩|⟨rfl,rfl⟩<;>simp[binOp,heq]
 unfold IE at k;rw[d]at k;split at k
 . rename_i z j;simp at j;subst j;refine aP h (v:=.bool b) ?_ (.bool _ _) k;unfold execOp;simp[H,J,p (.inl ⟨rfl,rfl⟩)]
 . rename_i z j;simp at j;subst j;refine aP h (v:=.bool (!b)) ?_ (.bool _ _) k;unfold execOp;simp[H,J,p (.inr ⟨rfl,rfl⟩)]
 . exact k.elim
theorem Ey(h:bA E ro own s w a){o:Oper}{x:Operand}{j:SV}(i:o.op=.nilCheck x)(c:Rel ro own j (a.eval x)){ws}(d:(tf E.N o.dst j).ok s ws):fW E P o s w a ws:=by
 unfold tf at d;split at d
 . refine aP h (v:=a.eval x) ?_ c d;obtain⟨b,_,e⟩:=JI c;unfold execOp;simp[i,e]
 . refine aP h (v:=a.eval x) ?_ c d;obtain⟨b,_,e⟩:=tI c;unfold execOp;simp[i,e]
 . refine aP h (v:=a.eval x) ?_ c d;obtain⟨b,k,m,e,_⟩:=wT c;unfold execOp;simp[i,e]
 . refine aP h (v:=a.eval x) ?_ c d;obtain⟨p,q,e,_⟩:=Hc c;unfold execOp;simp[i,e]
 . exact d.elim
theorem M9{c:Option Tmp}{T:TypeId}{ws}(b:(AM P E.N c T).ok s ws):∃e i d,P.underlying T=some (.slice e)/\P.info? e=some i/\0<i.size/\(∀w:World,(zeroValue e).run P w=.ok d w)/\d.cells.size=i.size/\(bm E.N c .emp).ok s ws:=by
 unfold AM at b;split at b
 case h_2=>exact b.elim
 rename_i e j;split at b
 case h_2=>exact b.elim
 rename_i z i k m;split at b
 case isFalse=>exact b.elim
 rename_i h;obtain⟨d,o,p,_⟩:=gl (ro:=λ_ _=>none) (own:=Own.empty) k;exact⟨e,i,d,j,m,h.2,o,by rw[p,h.1],b⟩
theorem EM(h:bA E ro own s w a){o:Oper}{v:Value}{b:Obj}{ws}{x:SV}(c:(execOp a.eval o).run P w=.ok (.value v) (w.alloc b))(d:Rel ro own x v)(e:(bm E.N o.dst x).ok s ws):fW E P o s w a ws:=by
 intro Q;unfold Oper.wp;rw[c];exact⟨ro,own,Gc (h.WY b) e d⟩
theorem snd_makeEmp(h:bA E ro own s w a){o:Oper}{T:TypeId}{l c:Operand}(x:o.op=.makeSlice T l c)(y:a.eval l=.int .i64 0)(z:a.eval c=.int .i64 0){ws}(k:(AM P E.N o.dst T).ok s ws):fW E P o s w a ws:=by
 obtain⟨e,i,m,A,r,C,B,D,k⟩:=M9 k;have p:i.zero=some m:=by
  have:=B w;simp only[zeroValue,Sem.run_bind,qF r,Result.andThen_ok]at this;cases u:i.zero with
  |none=>rw[u]at this;simp at this
  |some q=>rw[u]at this;simp at this;rw[this]
 have j:=run_make (P:=P) w T e i m A r p .i64 .i64 0 0 (by omega) (by omega) (by omega) (by omega);refine EM h (v:=.slice (some ⟨w.heap.size,0,none⟩) 0 0) (b:=.cells (madeCells m.cells (0*i.size)) e) ?_ (.emp _ _) k;unfold execOp;rw[x];simp only[y,z,Sem.run_bind];have d:=j;simp only[Ql]at d;rw[d];rfl
theorem BV(h:bA E ro own s w a){o:Oper}{T:TypeId}{c:Array (Nat×Operand)}(m:o.op=.buildSlice T 0 c)(d:c= #[]){ws}(j:(AM P E.N o.dst T).ok s ws):fW E P o s w a ws:=by
 obtain⟨e,i,u,p,q,x,y,z,j⟩:=M9 j;refine EM h (v:=.slice (some ⟨w.heap.size,0,none⟩) 0 0) (b:=.cells #[] e) ?_ (.emp _ _) j;unfold execOp;have r:(sizeOf e).run P w=.ok i.size w:=by simp[sizeOf,typeInfo,q]
 have k:∀g:Nat->Value,Array.map g (Array.range 0)= #[]:=λg=>Array.eq_empty_of_size_eq_zero (by simp)
 simp[m,d,Instr.buildSlice,run_underlying p,r,newRow,Instr.fill,k]
theorem aar{T:TypeId}(h:oU P T=true):∃e es,P.underlying T=some (.slice e)/\cw P e=some es:=by
 unfold oU at h;split at h
 . rename_i e hu;obtain⟨es,b⟩:=Qi.1 h;exact⟨e,es,hu,b⟩
 . cases h
theorem GH(h:bA E ro own s w a){o:Oper}{T:TypeId}{x:Operand}{D F:Option Operand}{L:SV}{q r:Option SV}{l u:Int}{d:Tx}(ho:o.op=.slice T x D F none)(hT:oU P T=true)(O:Rel ro own L (a.eval x))
 (G:q=none↔D=none) (R:∀y k,q=some y->D=some k->Rel ro own y (a.eval k)) (H:r=none↔F=none) (X:∀y k,r=some y->F=some k->Rel ro own y (a.eval k))
 (Z:Dc q=some l) (ac:CW (Ue L) r=some u) {ws} (c:(txSliceE P E.N o.dst T L l u d).ok s ws) (p:d.ok s ws->fW E P o s w a ws):fW E P o s w a ws:=by
 obtain⟨e,es,hu,i⟩:=aar hT;have bounds:∀{len cap:Nat},len=Ue L->0<=l->l<=u->u<=(len:Int)->len<=cap->(Instr.sliceBounds true len cap (D.map a.eval) (F.map a.eval) none).run P w=.ok (l.toNat,u.toNat,cap) w:=by
  intro len cap e1 h1 h2 h3 h4;refine oQ (ro:=ro) (own:=own) Z (by rw[e1];exact ac) (λy B=>?_) (λe=>by rw[G.1 e];rfl) (λy B=>?_) (λe=>by rw[H.1 e];rfl) h1 h2 h3 h4
  . cases D with
    |none=>rw[G.2 rfl]at B;cases B
    |some k=>exact⟨_,rfl,R y k B rfl⟩
  . cases F with
    |none=>rw[H.2 rfl]at B;cases B
    |some k=>exact⟨_,rfl,X y k B rfl⟩
 have go:∀{v:Value}{z:SV},(Instr.sliceAt T (a.eval x) (D.map a.eval) (F.map a.eval) none).run P w=.ok v w->Rel ro own z v->(bm E.N o.dst z).ok s ws->fW E P o s w a ws:=by
  intro v z J hr c;refine aP h (v:=v) ?_ hr c;unfold execOp;simp[ho,J]
 unfold txSliceE at c;split at c
 . split at c
   case isFalse=>exact c.elim
   rename_i K;obtain⟨rfl,rfl⟩:=K;have C:=bounds (len:=0) (cap:=0) rfl (by omega) (by omega) (by simp) (by omega);rw[gh O]at go;refine go (v:=.slice none 0 0) ?_ (.aq _) c;simp[Instr.sliceAt,run_underlying hu,Instr.slice,C,aS i]
 . split at c
   case isFalse=>exact c.elim
   rename_i K;obtain⟨rfl,rfl⟩:=K;have C:=bounds (len:=0) (cap:=0) rfl (by omega) (by omega) (by simp) (by omega);obtain⟨A,hA⟩:=nR O;rw[hA]at go;refine go (v:=.slice (some A) 0 0) ?_ (.emp _ _) c;simp[Instr.sliceAt,run_underlying hu,Instr.slice,C,aS i]
 . rename_i id M off len;split at c
   case isFalse=>exact p c
   rename_i K;obtain⟨rfl,h1,h2⟩:=K;rcases fH O with⟨b,C,al,hv⟩|⟨C,hl,ad,hv⟩
   . have m:=bounds (len:=len) (cap:=own.cap id M-off) rfl h1 (by omega) h2 (by omega);rw[hv]at go;split at c
     . rename_i j;subst j;refine go (v:=.slice (some ⟨b,off*own.es id 0,none⟩) 0 (own.cap id M-off)) ?_ ?_ c
       . simp[Instr.sliceAt,run_underlying hu,Instr.slice,m,aS i,dU]
       . exact .sl _ _ _ _ _ _ C (by omega)
     . refine go (v:=.slice (if own.cap id M-off=l.toNat then some ⟨b,off*own.es id 0,none⟩else some ⟨b,off*own.es id 0+l.toNat*es,none⟩) 0 (own.cap id M-off-l.toNat)) ?_ (.fe _ _ _ _ _ _ rfl) c;simp[Instr.sliceAt,run_underlying hu,Instr.slice,m,aS i,dU]
   . subst hl;have j:l=0:=by omega
     subst j;have m:=bounds (len:=0) (cap:=0) rfl (by omega) (by omega) (by simp) (by omega);rw[hv]at go;rw[JB rfl]at c;refine go (v:=.slice none 0 0) ?_ (.Es _ _ _ _ _ C rfl ad) c;simp[Instr.sliceAt,run_underlying hu,Instr.slice,m,aS i]
 . exact p c
theorem wm{len b:Nat}{h:Int}{k k':IntKind}(c:0<=h)(d:h<=(b:Int)):(Instr.sliceBounds true len b none (some (.int k h)) (some (.int k' h))).run P w=.ok (0,h.toNat,h.toNat) w:=by
 have e:=run_sliceBound (P:=P) (w:=w) (x:=.int k' h) (y:=b) (code:=.slice3Acap) rfl c d;have i:=run_sliceBound (P:=P) (w:=w) (x:=.int k h) (y:=h.toNat) (code:=.slice3B) rfl c (by omega);simp[Instr.sliceBounds,e,i]
theorem GZ(h:bA E ro own s w a){o:Oper}{T:TypeId}{x R mx:Operand}{sx:SV}{k H:IntKind}{u m':Int}(ho:o.op=.slice T x none (some R) (some mx))(hT:oU P T=true)(hx:Rel ro own sx (a.eval x))
 (J:a.eval R=.int k u) (K:a.eval mx=.int H m') {ws} (m:(Cl E.N o.dst sx u m').ok s ws):fW E P o s w a ws:=by
 obtain⟨e,es,hu,L⟩:=aar hT;unfold Cl at m;split at m
 . rename_i id aD off len;split at m
   case isFalse=>exact m.elim
   rename_i X;obtain⟨rfl,Z,h1⟩:=X;have run:∀{A:Option Addr}{n cap:Nat},a.eval x=.slice A n cap->u<=(cap:Int)->(execOp a.eval o).run P w=.ok (.value (.slice A u.toNat u.toNat)) w:=by
    intro A n cap y p;have z:=wm (P:=P) (w:=w) (len:=n) (k:=k) (k':=H) Z p;unfold execOp;simp[ho,Instr.sliceAt,run_underlying hu,Instr.slice,y,J,K,z,aS L];intro ac;cases A<;>simp[Addr.add]
   have ad:∃v0,Rel ro own (.sl id aD off u.toNat) v0/\∃A n cap c0,v0=.slice A u.toNat c0/\a.eval x=.slice A n cap/\u<=(cap:Int):=by
    rcases fH hx with⟨b,z,be,y⟩|⟨z,B,al,y⟩
    . exact⟨_,.sl _ _ _ _ _ _ z (by omega),_,_,_,_,rfl,y,by omega⟩
    . have C:u.toNat=0:=by omega
      rw[C];exact⟨_,.Es _ _ _ _ _ z rfl al,_,_,_,_,rfl,y,by omega⟩
   obtain⟨v0,aq,A,n,cap,c0,aw,y,p⟩:=ad;obtain⟨bf,ax,D,F,bh,hs,hr⟩:=iw (s:=s) (xs:=[.sl id aD off u.toNat]) (vals:=[v0]) ⟨λ_ _=>rfl,λ_=>.inl rfl⟩ h ⟨aq,trivial⟩ m;clear m;split at F
   case h_2=>exact F.elim
   rename_i e' n' f;obtain⟨ay,M,q2⟩:=Tx.uB F;have az:ws=ax++ay:=q2.symm;subst az;have bb:Rel D own (.bF e' n' f) (.slice A u.toNat u.toNat):=by
    have O:=hr.1;rw[aw]at O;rcases dE O with⟨B,A',r,c⟩|⟨b,k0,r,vs,c,G,B,hm,hh⟩
    . injection c with M q q3
      subst M;rw[q];exact .fe _ _ _ _ _ _ B
    . injection c with M q q3
      subst M;rw[q];exact .bF _ _ _ _ _ _ _ vs (J1 _) B hm hh
   intro Q;unfold Oper.wp;rw[run y p];show dL E _ _ (a.put o.dst _)
   rw[aM];rcases setT_ok M with⟨hd,rfl⟩|⟨d,hd,bd,rfl⟩
   . rw[hd];exact⟨D,own,hs⟩
   . rw[hd];exact⟨D,own,hs.put bd bb⟩
 . rename_i bi len f;split at m
   case isFalse=>exact m.elim
   rename_i X;obtain⟨rfl,Z,h1⟩:=X;have run:∀{A:Option Addr}{n cap:Nat},a.eval x=.slice A n cap->u<=(cap:Int)->(execOp a.eval o).run P w=.ok (.value (.slice A u.toNat u.toNat)) w:=by
    intro A n cap y p;have z:=wm (P:=P) (w:=w) (len:=n) (k:=k) (k':=H) Z p;unfold execOp;simp[ho,Instr.sliceAt,run_underlying hu,Instr.slice,y,J,K,z,aS L];intro ac;cases A<;>simp[Addr.add]
   rcases dE hx with⟨B,A',r,c⟩|⟨b,k0,r,vs,c,G,B,hm,hh⟩
   . have C:u.toNat=0:=by omega
     refine aP h (run c (by omega)) ?_ m;rw[C];exact .fe _ _ _ _ _ _ rfl
   . refine aP h (run c (by omega)) ?_ m;exact .bF _ _ _ _ _ _ _ vs (J1 _) (λi R=>B i (by omega)) (λk m=>hm k (Qf m (Jl _ (by omega)))) (λi j sv R hj=>hh i j sv (by omega) hj)
 . exact m.elim
theorem slice_val{x:SV}{v:Value}(j:isSlice x=true)(h:Rel ro own x v):∃A n c,v=.slice A n c/\n<=c:=by
 unfold isSlice at j;split at j
 . exact⟨_,_,_,gh h,J1 _⟩
 . obtain⟨A,o⟩:=nR h;exact⟨_,_,_,o,J1 _⟩
 . rcases dE h with⟨p,u,i,d⟩|⟨b,y,i,z,d,e,_⟩
   . exact⟨_,_,_,d,X0 _⟩
   . exact⟨_,_,_,d,e⟩
 . rcases fH h with⟨b,q,m,k⟩|⟨q,p,r,k⟩
   . exact⟨_,_,_,k,by omega⟩
   . exact⟨_,_,_,k,J1 _⟩
 . cases j
theorem qV{x:SV}{v:Value}(i:isEmpty x=true)(h:Rel ro own x v):∃A c,v=.slice A 0 c:=by
 unfold isEmpty at i;split at i
 . exact⟨_,_,gh h⟩
 . obtain⟨A,o⟩:=nR h;exact⟨_,_,o⟩
 . rcases dE h with⟨p,u,e,d⟩|⟨b,y,e,z,d,j,_⟩
   . exact⟨_,_,d⟩
   . exact⟨_,_,d⟩
 . rcases fH h with⟨b,q,m,k⟩|⟨q,p,r,k⟩
   . exact⟨_,_,k⟩
   . exact⟨_,_,k⟩
 . cases i
theorem ET(h:bA E ro own s w a){o:Oper}{c:Call}{T:TypeId}{x y:SV}{i B:Value}(F:o.op=.call c)(G:c.callee=.builtin .append)(j:c.argTypes= #[T,T])(b:c.args.map a.eval= #[i,B])(H:oU P T=true)
 (C:Rel ro own x i) (J:Rel ro own y B) (k:isSlice x=true) (m:isEmpty y=true) {ws} (K:(bm E.N o.dst x).ok s ws):fW E P o s w a ws:=by
 obtain⟨e,es,hu,p⟩:=aar H;obtain⟨A,n,O,q,L⟩:=slice_val k C;obtain⟨D,M,r⟩:=qV m J;refine aP h (v:=i) ?_ C K;rw[aT F G,j,b,q,r];have u:(Builtin.firstCells es 0 (.slice D 0 M)).run P w=.ok #[] w:=by
  cases D with
  |none=>simp[Builtin.firstCells]
  |some d=>
   have:=run_loadCells_list (P:=P) w d [] (by simp);simpa[Builtin.firstCells]using this
 have z:∀d:Addr,(storeCells d ([]:List Value)).run P w=.ok () w:=λd=>by simp[storeCells]
 cases A<;>simp[builtin,Builtin.append_,run_underlying hu,aS p,Builtin.lenOf,L,u,z]
end
end Go.Sx
namespace Go.Sx
open Go Go.RowKit
variable [bW]
section
variable {E : Env} {P : Program} {ro : RO} {own : Own} {s : St} {w : World} {a : Act}
theorem PN{o b:Oper}(c:o.dst=b.dst){K:Act->World->Prop}{Q:Exit->Act->World->Prop}(r:Result Next):o.upon P a K Q r=b.upon P a K Q r:=by
 cases r with
 |ok n d=>cases n<;>simp only[Oper.upon,c]
 |halt x d=>cases x<;>simp only[Oper.upon]
theorem PG{o o':Oper}{ws}(b:o.dst=o'.dst)(c:(execOp a.eval o).run P w=(execOp a.eval o').run P w)(h:fW E P o' s w a ws):fW E P o s w a ws:=by
 intro Q;have:=h Q;unfold Oper.wp at this⊢;rw[c,PN b];exact this
theorem Ht{T m e:TypeId}{i:TypeInfo}{A:Addr}{B:Option Addr}{k c:Nat}(p:P.underlying T=some (.slice e))(o:P.info? e=some i)(y:1<=k)(z:k*i.bytes<=140737488355328):
 (Builtin.append_ #[T,T] m #[.slice (some A) 0 0,.slice B k c]).run P w=(Builtin.append_ #[T,T] m #[.slice none 0 0,.slice B k c]).run P w:=by
 have q:∀(b:World)(d:Addr),(loadCells d 0).run P b=.ok #[] b:=λb d=>by
  have:=run_loadCells_list (P:=P) b d [] (by simp);simpa using this
 have r:∀b:World,(sizeOf e).run P b=.ok i.size b:=λb=>by simp[sizeOf,typeInfo,o]
 have u:∀b:World,(typeInfo e).run P b=.ok i b:=λb=>by simp[typeInfo,o]
 have h: ¬k=0:=by omega
 have x:Builtin.nextslicecap k 0=k:=by
  unfold Builtin.nextslicecap;rw[JB (by omega)]
 have j: ¬(281474976710656<k*i.bytes):=by omega
 simp[Builtin.append_,run_underlying p,r,u,Builtin.lenOf,h,x,j,Builtin.firstCells,q]
theorem Aq(h:bA E ro own s w a){o:Oper}{c:Call}{M:Nat}{T:TypeId}{x y:SV}{vx O:Value}(ho:o.op=.call c)(R:c.callee=.builtin .append)(C:c.argTypes= #[T,T])(p:c.args.map a.eval= #[vx,O])
 (X:FD x=true) (Z:Rel ro own x vx) (hy:Rel ro own y O) (ac:∃B k D,O=.slice B k D/\1<=k) {ws} (q:(kY P E.N M o.dst T .aq y).ok s ws):fW E P o s w a ws:=by
 have ad:x=.emp:=by
  unfold FD at X;split at X
  . rfl
  . cases X
 subst ad;obtain⟨A,rfl⟩:=nR Z;obtain⟨B,k,D,rfl,al⟩:=ac;have j:c.args.toList.map a.eval=[.slice (some A) 0 0,.slice B k D]:=by rw[<-Array.toList_map,p]
 obtain⟨K,u,aw⟩:∃K u,c.args= #[K,u]:=by
  have F:c.args.toList.length=2:=by have:=JM List.length j;simpa using this
  match hq:c.args.toList,F with
  |[K,u],_=>exact⟨K,u,by rw[<-Array.toList_inj];simpa using hq⟩
 let r:Call:={c with args:= #[.const (.slice none 0 0),u]}
 let o':Oper:={o with op:=.call r}
 have az:a.eval u=.slice B k D:=by
  rw[aw]at j;simp at j;exact j.2
 have m:r.args.map a.eval= #[.slice none 0 0,.slice B k D]:=by
  have h1:a.eval (.const (.slice none 0 0))=.slice none 0 0:=rfl;simp only[r,List.map_toArray,J8,Z2,h1,az]
 have G:fW E P o' s w a ws:=zT (o:=o') (c:=r) h rfl R C m (.aq _) hy q;have hb:∃e i,P.underlying T=some (.slice e)/\P.info? e=some i/\k*i.bytes<=140737488355328:=by
  unfold kY at q;split at q
  case h_2=>exact q.elim
  rename_i e hu;split at q
  case h_2=>exact q.elim
  rename_i z i d hz hi hd;split at q
  case isFalse=>exact q.elim
  obtain⟨k',g,aD,H⟩:=pJ h hy q;obtain⟨_,J⟩:=aD;have bb:k'=k:=by
   rcases H with⟨rfl,A',r,L⟩|⟨b,off,r,L,_⟩
   . simp at L;omega
   . simp at L;exact L.2.1.symm
  subst bb;refine⟨e,i,hu,hi,?_⟩;unfold tG at J;exact J.1.2
 obtain⟨e,i,hu,hi,hb⟩:=hb;refine PG (o':=o') rfl ?_ G;rw[aT ho R,aT (o:=o') (c:=r) rfl R,C,p,m];simp only[builtin,Sem.run_bind];rw[Ht hu hi al hb]
theorem snd_clear(h:bA E ro own s w a){o:Oper}{c:Call}{x:SV}{k:Value}{T:TypeId}(q:o.op=.call c)(r:c.callee=.builtin .clear)(m:c.argTypes= #[T])(b:c.args.map a.eval= #[k])(u:oU P T=true)(p:Rel ro own x k){ws}(i:(CR o.dst x).ok s ws):fW E P o s w a ws:=by
 obtain⟨e,es,hu,y⟩:=aar u;have key:o.dst=none/\ws=[]/\∃A c,k=.slice A 0 c:=by
  unfold CR at i;split at i
  . rename_i d;refine⟨d,i.symm,?_⟩;exact qV (x:=.bF _ 0 _) rfl p
  . rename_i d;exact⟨d,i.symm,qV (x:=.aq) rfl p⟩
  . rename_i d;exact⟨d,i.symm,qV (x:=.emp) rfl p⟩
  . exact i.elim
 obtain⟨d,rfl,A,z,rfl⟩:=key;intro Q;unfold Oper.wp;have j:(execOp a.eval o).run P w=.ok (.value (.tuple #[])) w:=by
  rw[aT q r,m,b];cases A<;>simp[builtin,Builtin.clear_,run_underlying hu]
 rw[j];show dL E _ _ (a.put o.dst _)
 rw[d];exact⟨ro,own,h⟩
theorem GL(h:bA E ro own s w a){o:Oper}{c:Call}{T:TypeId}{i:Value}(j:o.op=.call c)(k:c.callee=.builtin .len)(d:c.argTypes= #[T])(b:c.args.map a.eval= #[i])(m:oU P T=true)(p:Rel ro own .emp i){ws}(q:(bm E.N o.dst (.int .i64 0)).ok s ws):fW E P o s w a ws:=by
 obtain⟨e,es,hu,r⟩:=aar m;obtain⟨A,rfl⟩:=nR p;refine aP h (v:=.int .i64 0) ?_ (.int _ _ _) q;rw[aT j k,d,b];simp[builtin,Builtin.len_,run_underlying hu,goInt]
theorem NY(h:bA E ro own s w a){o:Oper}{c:Call}{x y z:SV}{m A B:Value}{u:SV}(D:o.op=.call c)(F:c.callee=.builtin .max)(b:c.args.map a.eval= #[m,A,B])(G:Rel ro own x m)(H:Rel ro own y A)(J:Rel ro own z B)(d:Ga x y=some u){ws}(j:(oF E.N o.dst (Ga u z)).ok s ws):fW E P o s w a ws:=by
 unfold Ga at d;split at d
 case h_2=>cases d
 rename_i k p K q;split at d
 case isFalse=>cases d
 rename_i e;subst e;simp at d;subst d;unfold oF at j;split at j
 case h_2=>exact j.elim
 rename_i r i;unfold Ga at i;split at i
 case h_2=>cases i
 rename_i L M O C heq;simp at heq;obtain⟨rfl,rfl⟩:=heq;split at i
 case isFalse=>cases i
 rename_i e;subst e;simp at i;subst i;refine aP h (v:=.int k (if C>(if q>p then q else p)then C else(if q>p then q else p))) ?_ (.int _ _ _) j;rw[aT D F,b,aK G,aK H,aK J];simp[builtin,Builtin.max_,Builtin.max2]
theorem YH(h:bA E ro own s w a){c:Call}{k:List SV->Tx}{ws}(d:(jI c.args.toList k).ok s ws):∃b,aQ ro own b (c.args.toList.map a.eval)/\(k b).ok s ws:=ku h d
theorem Sj{c:Call}{x:SV}(h:aQ ro own [x] (c.args.toList.map a.eval)):∃v,c.args.map a.eval= #[v]/\Rel ro own x v:=by
 match b:c.args.toList.map a.eval,h with
 |[v],hh=>exact⟨v,by rw[<-Array.toList_inj];simpa using b,hh.1⟩
theorem OJ{c:Call}{x y:SV}(h:aQ ro own [x,y] (c.args.toList.map a.eval)):∃v u,c.args.map a.eval= #[v,u]/\Rel ro own x v/\Rel ro own y u:=by
 match b:c.args.toList.map a.eval,h with
 |[v,u],hh=>exact⟨v,u,by rw[<-Array.toList_inj];simpa using b,hh.1,hh.2.1⟩
theorem ZD{c:Call}{x y z:SV}(h:aQ ro own [x,y,z] (c.args.toList.map a.eval)):∃v u t,c.args.map a.eval= #[v,u,t]/\Rel ro own x v/\Rel ro own y u/\Rel ro own z t:=by
 match b:c.args.toList.map a.eval,h with
 |[v,u,t],hh=>exact⟨v,u,t,by rw[<-Array.toList_inj];simpa using b,hh.1,hh.2.1,hh.2.2.1⟩
theorem noC{f:Nat}{c:bB}:(λ_:Nat=>(none:Option bB)) f=some c->nh P f c:=λh=>by cases h
theorem tE(h:bA E ro own s w a){o:Oper}{v:Value}{z:Option SV}{ws}(b:(execOp a.eval o).run P w=.ok (.value v) w)(d:∀x,z=some x->Rel ro own x v)(c:(oF E.N o.dst z).ok s ws):fW E P o s w a ws:=by
 unfold oF at c;split at c
 . exact aP h b (d _ rfl) c
 . exact c.elim
theorem Br(h:bA E ro own s w a){H:HT}(i:yf H){o:Oper}{d:BinOp}{T U:TypeId}{x y:Operand}(B:o.op=.binOp d T x y U){r A:SV}(C:Rel ro own r (a.eval x))(D:Rel ro own A (a.eval y)){ws}(b:(xg P H E.N o.dst d T r A).ok s ws):fW E P o s w a ws:=by
 unfold xg at b;split at b
 case h_2=>exact b.elim
 rename_i p q F G;obtain⟨n,J,j⟩:=Gi F C;obtain⟨m,K,k⟩:=Gi G D;have L:∀{d:BinOp},(eqGuard d T x y (.int .i64 n) (.int .i64 m)).run P w=.ok () w:=fu rfl (by simp);have ex:∀{v},(binOp d T (.int .i64 n) (.int .i64 m)).run P w=.ok v w->(execOp a.eval o).run P w=.ok (.value v) w:=λ{v} c=>by
  unfold execOp;simp[B,J,K,L,c]
 split at b
 . refine tE h (v:=.int .i64 (IntKind.i64.wrap (n.tdiv m))) ?_ (λz e=>(Fa i j k e).2 _ _) b;refine ex ?_;have:m≠0:=by
    unfold oF at b;split at b
    . rename_i z e;exact(Fa i j k e).1
    . exact b.elim
   simp[binOp,Op.intDiv,this]
 . split at b
   case h_2=>exact b.elim
   unfold oF at b;split at b
   case h_2=>exact b.elim
   rename_i z e;obtain⟨v,M,O⟩:=RS i j k e;obtain⟨u,c,hu⟩:=He (P:=P) (w:=w) (ro:=ro) (own:=own) (T:=T) M;exact aP h (ex c) (O _ _ _ hu) b
theorem KQ(h:bA E ro own s w a){H:HT}(j:yf H){o:Oper}{k:BinOp}{T U:TypeId}{x y:Operand}(z:o.op=.binOp k T x y U){l m:List ar}(p:Rel ro own (.agg l) (a.eval x))(q:Rel ro own (.agg m) (a.eval y)){ws}(c:(CZ P H E.N o.dst k T l m).ok s ws):fW E P o s w a ws:=by
 refine uF h z (denG_rel p) (denG_rel q) ?_;obtain⟨B,_,_,r⟩:=cU p;obtain⟨A,_,_,u⟩:=cU q;unfold CZ at c;unfold yp;simp only;split at c
 case h_2=>exact c.elim
 rename_i C d;split at c
 case isFalse=>exact c.elim
 rename_i e;rw[d];dsimp only;rw[JB ⟨e.1,lK e.2.1,e.2.2⟩];obtain⟨⟨f1,f2⟩,c⟩:=c;refine⟨⟨qP f1,qP f2⟩,?_⟩;split at c
 . rename_i b i;rw[rZ j r u i];exact c
 . rename_i b i;rw[rZ j r u i];exact c
 . exact c.elim
theorem N8(h:bA E ro own s w a){H:HT}(i:yf H){o:Oper}{j:BinOp}{T U:TypeId}{x y:Operand}(c:o.op=.binOp j T x y U){k m:SV}(d:Rel ro own k (a.eval x))(e:Rel ro own m (a.eval y)){ws}(b:(GN P H E.N o.dst j T k m).ok s ws):fW E P o s w a ws:=by
 unfold GN at b;split at b
 . exact Br h i c d e b
 . split at b
   . split at b
     . exact KQ h i c d e b
     . exact uF h c d e b
   . exact b.elim
 . split at b
   . exact Br h i c d e b
   . exact uF h c d e b
theorem snd_unD(h:bA E ro own s w a){H:HT}(j:yf H){o:Oper}{c:UnOp}{T:TypeId}{x:Operand}(d:o.op=.unOp c T x){e:SV}(i:Rel ro own e (a.eval x)){ws}(b:(MM H E.N o.dst c e).ok s ws):fW E P o s w a ws:=by
 unfold MM at b;split at b
 . split at b
   . rename_i p k;obtain⟨n,m,q⟩:=Gi k i;refine tE h (v:=.int .i64 (IntKind.i64.wrap (0-n))) ?_ (λz r=>MR j q r _ _) b;unfold execOp;simp[d,m,Op.unary,Op.intArith]
   . exact b.elim
 . exact I5 h d i b
theorem Sf(h:bA E ro own s w a){H:HT}(p:yf H){o:Oper}{d:Nat}{S D:TypeId}{x:Operand}(i:o.op=.convert S D x){j:SV}(k:Rel ro own j (a.eval x)){ws}(b:(Dq P H E.N d o.dst S D j).ok s ws):fW E P o s w a ws:=by
 unfold Dq at b;split at b
 . rename_i e q r;split at b
   . rename_i G u y;obtain⟨n,A,c⟩:=Gi (a:=(e,q,r)) rfl k;refine tE h (v:=.int .i64 (IntKind.i64.wrap n)) ?_ (λz B=>?_) b
     . unfold execOp;simp[i,A,convert,run_underlying u,run_underlying y,Conv.intToInt]
     . obtain⟨C,F⟩:=jr p B (by rw[<-c.eq];exact c.lo) (by rw[<-c.eq];exact c.hi);have m:=c.eq;simp only at m;rw[m,C];exact F _ _
   . exact b.elim
 . exact Bq h i k b
theorem MS(h:bA E ro own s w a){o:Oper}{c:Call}{x y:SV}{e i:Value}{f:YB->YB->Option SV}{g:Int->Int->Int}(b:∀n m,e=.int .i64 n->i=.int .i64 m->(execOp a.eval o).run P w=.ok (.value (.int .i64 (g n m))) w)(j:∀{p q:YB}{n m:Int},Dk p n->Dk q m->∀z,f p q=some z->Rel ro own z (.int .i64 (g n m)))(k:Rel ro own x e)(r:Rel ro own y i){ws}(d:(RF f E.N o.dst x y).ok s ws):fW E P o s w a ws:=by
 unfold RF at d;split at d
 case h_2=>exact d.elim
 rename_i p q u A;obtain⟨n,B,C⟩:=Gi u k;obtain⟨m,D,F⟩:=Gi A r;exact tE h (b n m B D) (λz G=>j C F z G) d
theorem Og(h:bA E ro own s w a){o:Oper}{m:Nat}{T:TypeId}{b:Nat}{c:Array (Nat×Operand)}(R:o.op=.buildSlice T b c){y:List SV}(K:aQ ro own y ((c.toList.map (·.2)).map a.eval)){ws}
 (d:(dS P E.N m o.dst T b ((c.toList.map (·.1)).zip y)).ok s ws):fW E P o s w a ws:=by
 have B:=K.length;simp at B;have p:((c.toList.map (·.1)).zip y).map (·.1)=((c.map λ(i,x)=>(i,a.eval x)).toList).map (·.1):=by
  rw[List.map_fst_zip (by simp[B])];simp[Xo]
 have q:aQ ro own (((c.toList.map (·.1)).zip y).map (·.2)) (((c.map λ(i,x)=>(i,a.eval x)).toList).map (·.2)):=by
  rw[List.map_snd_zip (by simp[B])];simpa[Xo]using K
 unfold dS at d;split at d
 case h_2=>exact d.elim
 rename_i e X;split at d
 case h_2=>exact d.elim
 rename_i z es Z C;split at d
 case isFalse=>exact d.elim
 rename_i hc;obtain⟨D,F,ac⟩:=hc;split at d
 case h_2=>exact d.elim
 rename_i f hf;obtain⟨L,z1,z2,z3⟩:=gl (ro:=ro) (own:=own) Z;have G:mK ro own [.a b es λ_=>z] ((Array.range (b*es)).map ((if b*es=0 then #[]else L.cells)[· %(if b*es=0 then #[]else L.cells).size]!)):=by
  by_cases j:b*es=0
  . refine⟨by simp[aa,ar.size],λk sv d=>?_⟩;have:=cK d;simp[aa,ar.size]at this;omega
  . simp only[j,JF];exact Cg z2 D z3
 obtain⟨r,A,H⟩:=l7 hf G p q;have J:r.size=b*es:=by rw[H.1];simp[aa,ar.size]
 refine qU h (cap:=b) (v:=.slice (some ⟨w.heap.size,0,none⟩) b b) (w':=w.alloc (.cells r e)) (lo:=0) (hi:=0) rfl rfl rfl rfl ?_ (λ_=>⟨b,f,rfl,J1 _,J⟩) (by simp) (by rw[H.1];exact J1 _) (.inl (J1 _)) ?_ H.2 ?_ d
 . unfold execOp;simp only[R,Instr.buildSlice,Sem.run_bind,run_underlying X,Result.andThen_ok,aS C];rw[JA (by omega)]
   by_cases j:b*es=0
   . simp only[j,JE]at A;simp only[j,JE,Sem.run_pure,Result.andThen_ok,A,newRow,Sem.run_bind,run_newObj];rfl
   . simp only[j,JF]at A;simp only[j,JF,Sem.run_bind,z1,Result.andThen_ok,Sem.run_pure,A,newRow,run_newObj];rfl
 . rintro t M;simp at M;refine⟨rfl,rfl,M,?_⟩;have:b<=b*es:=Nat.le_mul_of_pos_right _ F;unfold maxLen;omega
 . intro u k1 O k3 k4;have:=Rel.sl (ro:=ro) u m 0 0 b w.heap.size k1 (by rw[O];omega);rw[O]at this;simpa using this
theorem RG(h:bA E ro own s w a){o:Oper}{j:Nat}{T:TypeId}{i:Nat}{b:Array (Nat×Operand)}(B:o.op=.buildSlice T i b){A:List SV}(C:aQ ro own A ((b.toList.map (·.2)).map a.eval)){q}
 (c:(mI P E.N j o.dst T i (b.toList.map (·.1)) A).ok s q):fW E P o s w a q:=by
 unfold mI at c;obtain⟨r,k,D,c,R,F,G,H⟩:=mb (s1:=s) ⟨λ_ _=>rfl,λ_=>.inl rfl⟩ h C c;have key:∃m,q=k++m/\(dS P E.N j o.dst T i ((b.toList.map (·.1)).zip r)).ok (s.apply k) m:=by
  split at c
  case h_2=>exact c.elim
  rename_i e J;split at c
  case h_2=>exact c.elim
  rename_i z es K u;split at c
  case isFalse=>exact c.elim
  rename_i L;split at c
  case h_2=>exact c.elim
  rename_i f M;split at c
  case h_2=>exact c.elim
  rename_i d O;split at c
  case isFalse=>exact c.elim
  rename_i x;obtain⟨p,c⟩:=kC c;have e:q=k++(lO j true (some e) es [.a i es f]++[(.tm d,.v (.sl j 0 0 i))]):=c.symm;refine⟨_,e,?_⟩;unfold dS;rw[J];simp only[K,u];rw[JB L,M];unfold uf;rw[O];simp only[JB x];unfold oO;simp only[Tx.ok,F.free p]
 obtain⟨m,rfl,y⟩:=key;have:=Og G B (H.mono (.refl _) (Own.empty_le _)) y;intro Q;rw[aM];exact this Q
theorem VE(h:bA E ro own s w a){H:HT}(hH:yf H){o:Oper}{ac:Nat}{ws}(j:(Zo P H E.N ac o).ok s ws):fW E P o s w a ws:=by
 have gen:(kf P E.N (λ_=>none) ac o).ok s ws->fW E P o s w a ws:=λj=>Eg (λf c=>noC) h j
 unfold Zo at j;split at j
 . rename_i op T x p;obtain⟨O,q,d⟩:=aZ h j;exact snd_unD h hH p q d
 . rename_i S D x p;obtain⟨O,q,d⟩:=aZ h j;exact Sf h hH p q d
 . exact Ez h (by assumption) j
 . rename_i T x k ok p;split at j
   case isFalse=>exact j.elim
   rename_i e;subst e;obtain⟨O,q,d⟩:=aZ h j;obtain⟨k',X,r⟩:=aZ h d;exact I4 h p q X r
 . rename_i T m k v p;obtain⟨m',hm,d⟩:=aZ h j;obtain⟨k',X,r⟩:=aZ h d;obtain⟨v',hv,F⟩:=aZ h r;exact Ai h p hm X hv F
 . rename_i x p;obtain⟨O,q,d⟩:=aZ h j;exact Ey h p q d
 . rename_i T x p;obtain⟨O,q,d⟩:=aZ h j;exact WZ h p q d
 . rename_i x b p;split at j
   case isFalse=>exact j.elim
   rename_i e;subst e;obtain⟨O,q,d⟩:=aZ h j;exact M8 h p q d
 . rename_i op T x y U p;split at j
   . rename_i G;simp only[J2]at G;obtain⟨O,q,d⟩:=aZ h j;exact RQ h p G.1 G.2 q d
   . obtain⟨O,q,d⟩:=aZ h j;obtain⟨y',K,r⟩:=aZ h d;exact N8 h hH p q K r
 . rename_i T l c p;obtain⟨O,q,d⟩:=aZ h j;split at d
   . obtain⟨y',K,r⟩:=aZ h d;split at r
     . exact snd_makeEmp h p (aK q) (aK K) r
     . exact r.elim
   . exact gen d
 . rename_i T parts p;split at j
   case isFalse=>exact j.elim
   rename_i hp;exact BV h p (Array.eq_empty_of_size_eq_zero hp) j
 . rename_i T len parts _ p;obtain⟨xs,hr,d⟩:=ku h j;split at d
   . exact RG h p hr d
   . exact Og h p hr d
 . rename_i T x lo hi mx p;split at j
   . obtain⟨O,q,d⟩:=aZ h j;obtain⟨bh,ad,al,r⟩:=ud h d;obtain⟨aq,aw,ax,F⟩:=ud h r;split at F
     . rename_i l u R ay Z;exact GH h p R q ad al aw ax ay Z F gen
     . exact gen F
   . rename_i mx;split at j
     . rename_i hi;obtain⟨O,q,d⟩:=aZ h j;obtain⟨aq,Z,r⟩:=aZ h d;obtain⟨bi,az,F⟩:=aZ h r;split at F
       . rename_i k u k' m' R;exact GZ h p R q (aK Z) (aK az) F
       . exact F.elim
     . exact j.elim
 . rename_i c p;split at j
   . rename_i G;obtain⟨xs,A,d⟩:=YH h j;split at d
     . rename_i x y;obtain⟨vx,vy,i,q,K⟩:=OJ A;split at d
       . rename_i t t' M;split at d
         . rename_i bb;obtain⟨rfl,R⟩:=bb;have L:c.argTypes= #[t,t]:=by rw[<-Array.toList_inj];exact M
           split at d
           . rename_i J;split at d
             . rename_i A;exact ET h p G L i R q K A J d
             . exact d.elim
           . rename_i J;split at d
             . rename_i bd;have be:∃B k cc,vy=.slice B k cc/\1<=k:=by
                have C:=d;unfold kY at C;split at C
                case h_2=>exact C.elim
                split at C
                case h_2=>exact C.elim
                split at C
                case isFalse=>exact C.elim
                unfold xL at C;split at C
                . simp[isEmpty]at J
                . rename_i bp len f;rcases dE K with⟨hl,_⟩|⟨b,k0,cap,vs,hv,_⟩
                  . subst hl;simp[isEmpty]at J
                  . refine⟨_,_,_,hv,?_⟩;cases len with
                    |zero=>simp[isEmpty]at J
                    |succ n=>omega
                . rename_i id aD off len;rcases fH K with⟨b,_,_,hv⟩|⟨_,hl,_,_⟩
                  . refine⟨_,_,_,hv,?_⟩;cases len with
                    |zero=>simp[isEmpty]at J
                    |succ n=>omega
                  . subst hl;simp[isEmpty]at J
                . exact C.elim
               exact Aq h p G L i bd q K be d
             . exact gen d
         . exact gen d
       . exact d.elim
     . exact d.elim
   . rename_i G;obtain⟨xs,A,d⟩:=YH h j;split at d
     . rename_i x y z;obtain⟨vx,vy,vz,i,q,K,hz⟩:=ZD A;split at d
       . rename_i u hu;exact NY h p G i q K hz hu d
       . exact d.elim
     . rename_i x y;obtain⟨vx,vy,i,q,K⟩:=OJ A;split at d
       . refine MS (g:=λn m=>if m>n then m else n) h (c:=c) (λn m hn hm=>?_) (λyn ym z hz=>L4 hH yn ym hz _ _) q K d;rw[aT p G,i,hn,hm];simp[builtin,Builtin.max_,Builtin.max2]
       . exact gen d
     . exact gen d
   . rename_i G;obtain⟨xs,A,d⟩:=YH h j;split at d
     . rename_i x y;obtain⟨vx,vy,i,q,K⟩:=OJ A;split at d
       . refine MS (g:=λn m=>if m<n then m else n) h (c:=c) (λn m hn hm=>?_) (λyn ym z hz=>Pd hH yn ym hz _ _) q K d;rw[aT p G,i,hn,hm];simp[builtin,Builtin.min_,Builtin.min2]
       . exact gen d
     . exact gen d
   . rename_i G;obtain⟨xs,A,d⟩:=YH h j;split at d
     . rename_i x;obtain⟨vx,i,q⟩:=Sj A;split at d
       . rename_i t M;split at d
         . rename_i R;have L:c.argTypes= #[t]:=by rw[<-Array.toList_inj];exact M
           exact snd_clear h p G L i R q d
         . exact d.elim
       . exact d.elim
     . exact d.elim
   . rename_i G;obtain⟨xs,A,d⟩:=YH h j;split at d
     . rename_i x;obtain⟨vx,i,q⟩:=Sj A;split at d
       . rename_i he;split at d
         . rename_i t M;split at d
           . rename_i R;have L:c.argTypes= #[t]:=by rw[<-Array.toList_inj];exact M
             have bf:x=.emp:=by
              unfold FD at he;split at he
              . rfl
              . cases he
             subst bf;exact GL h p G L i R q d
           . exact d.elim
         . exact d.elim
       . exact gen d
     . exact gen d
   . exact gen j
 . exact gen j
end
end Go.Sx
namespace Go.Sx
open Go Go.RowKit
variable [bW]
def lU(M:Nat)(b:Trie Rn)(σ:St):St
 |.tm t=>σ (.tm t)
 |.mt id=>if id<M then .m ((b.at id).map (·.1))else σ (.mt id)
 |.sg id q=>if id<M then .s (((b.at id).bind λe=>e.2[q]?).getD (.s .any))else σ (.sg id q)
def mix(M:Nat)(s:cg)(σ:St):St
 |.tm t=>s.get (.tm t)
 |.mt id=>if id<M then s.get (.mt id)else σ (.mt id)
 |.sg id q=>if id<M then s.get (.sg id q)else σ (.sg id q)
instance (n : Nat) (l : Loc) : Decidable (gF n l) := by cases l <;> unfold gF <;> infer_instance
theorem CO{M:Nat}{s:cg}{σ:St}{l:Loc}(h:gF M l):mix M s σ l=s.get l:=by
 cases l<;>simp only[mix,gF]at h⊢ <;>simp[h]
theorem kQ{n m:Nat}(h:n<=m){l:Loc}(b:gF n l):gF m l:=by
 cases l<;>simp only[gF]at b⊢ <;>omega
theorem mg{n:Nat}:∀{R:List Loc},nK n R=true->∀l∈R,gF n l
 |[],_,l,b=>by simp at b
 |.tm t::r,h,l,b=>by
  rcases Kd.1 b with rfl|b
  . trivial
  . exact mg (R:=r) h l b
 |.mt i::r,h,l,b=>by
  simp only[nK,J2,zb]at h;rcases Kd.1 b with rfl|b
  . exact h.1
  . exact mg h.2 l b
 |.sg i q::r,h,l,b=>by
  simp only[nK,J2,zb]at h;rcases Kd.1 b with rfl|b
  . exact h.1
  . exact mg h.2 l b
theorem YE{M:Nat}{s d:cg}{σ:St}{b:List (Loc×Item)}(h:T4 s d b)(m:GE s.nx s.en)(o:d.nx<=M):mix M d σ=(mix M s σ).apply b:=by
 have key:∀(b:List (Loc×Item))(g:St),(∀l∈b.map (·.1),gF M l)->∀l,(if gF M l then(St.apply g b) l else σ l)=(St.apply (λl=>if gF M l then g l else σ l) b) l:=by
  intro b
  induction b with
  |nil=>intro g _ l;rfl
  |cons x r p=>
   intro g c l;obtain⟨i,x⟩:=x;simp only[St.apply];rw[p _ (λj q=>c j (by simp[q]))]
   congr 1
   funext j
   simp only[St.put];have u:gF M i:=c i (by simp)
   by_cases e:j=i
   . subst e;simp[u]
   . simp[e]
 have k:∀(t:cg),mix M t σ=λl=>if gF M l then t.get l else σ l:=by
  intro t;funext l;cases l<;>simp[mix,gF]
 rw[k,k]
 funext l
 have:=key b s.get (λl c=>kQ o (h.Yt m l c)) l;rw[<-this,h.get]
theorem bA.congr{E:Env}{y:RO}{o:Own}{s p:St}{w:World}{a:Act}(h:bA E y o s w a)(z:∀t,p (.tm t)=s (.tm t))(i:∀id,p (.mt id)=s (.mt id))(r:∀id m q,s (.mt id)=.m (some m)->(q<m.ns\/q=0)->p (.sg id q)=s (.sg id q)):bA E y o p w a:=by
 have j:∀id m,s (.mt id)=.m (some m)->p.az id m.ns=s.az id m.ns:=λid m c=>St.dc λq A=>r id m q c (.inl A)
 refine {below:=h.below,base:=h.base,defs:=h.defs,size:=h.size,tm:=λt B c=>h.tm t B (by rw[<-z];exact c),cJ:=h.cJ,uU:=h.uU,gK:=λid m c=>?_,fr:=λid c=>h.fr id (by rw[<-i];exact c),mY:=λid m c=>h.mY id m (by rw[<-i];exact c),inj:=λid d m u b c k=>h.inj id d m u b (by rw[<-i];exact c) (by rw[<-i];exact k),kk:=h.kk,mp:=⟨λid m n e f c k x=>?_,λid d m u b n e f C D F c k x G H J=>?_⟩}
 . rw[i]at c;rw[j id m c];exact h.gK id m c
 . rw[i]at c;exact h.mp.at_ id m n e f c k (by rw[<-r id m 0 c (.inr rfl)];exact x)
 . rw[i]at c k;exact h.mp.inj id d m u b n e f C D F c k x G (by rw[<-r id m 0 c (.inr rfl)];exact H) (by rw[<-r d u 0 k (.inr rfl)];exact J)
def Sub(L:List Loc)(m:Nat):Prop:=∀l∈L,m.testBit l.enc=true
theorem sY:∀{L:List Loc}{k:Nat},(bY L).testBit k=true->∃l∈L,l.enc=k
 |[],k,h=>by simp[bY]at h
 |x::r,k,h=>by
  simp only[bY,Qc,Qz]at h;rcases h with h|h
  . rw[Ze,Nat.testBit_two_pow]at h;exact⟨x,by simp,by simpa using h⟩
  . obtain⟨l,b,c⟩:=sY h;exact⟨l,by simp[b],c⟩
theorem Sub.self(L:List Loc):Sub L (bY L):=λl b=>nW b
theorem Sub.and{A B:List Loc}{a b:Nat}(d:Sub A a)(k:Sub B b)(h:a&&&b=0):bY A&&&bY B=0:=by
 apply Nat.eq_of_testBit_eq;intro i;rw[Nat.testBit_and,Nat.zero_testBit];cases m:(bY A).testBit i with
 |false=>rfl
 |true=>
  cases o:(bY B).testBit i with
  |false=>rfl
  |true=>
   obtain⟨c,j,rfl⟩:=sY m;obtain⟨p,q,e⟩:=sY o;have:=JM (·.testBit c.enc) h;simp[Nat.testBit_and,<-e,k p q]at this;rw[e,d c j]at this;cases this
inductive Subs : List Step -> List Da -> Prop
 | nil : Subs [] []
 | cons {x : Step} {t : Da} {l : List Step} {r : List Da} (h1 : Sub x.R t.1) (h2 : Sub (x.ws.map (·.1)) t.2) (h : Subs l r) : Subs (x :: l) (t :: r)
theorem Subs.append{l b:List Step}{r c:List Da}(h:Subs l r)(d:Subs b c):Subs (l++b) (r++c):=by
 induction h with
 |nil=>exact d
 |cons e i _ j=>exact .cons e i j
theorem Sub.or{A B:List Loc}{a b:Nat}(c:Sub A a)(d:Sub B b):Sub (A++B) (a|||b):=λl e=>by
 rw[Qc,Qz];rcases Xt.1 e with h|h
 . exact .inl (c l h)
 . exact .inr (d l h)
theorem Ag(A B:List Loc):bY (A++B)=bY A|||bY B:=by
 induction A with
 |nil=>simp[bY]
 |cons x r b=>simp only[K0,bY,b,Nat.or_assoc]
theorem BR{i:Nat}{R W:List Loc}{r w:Nat}(j:Sub R r)(k:Sub W w):∀{b:List Nat}{o:List Step}{p:List Da},Subs o p->my i r w (Le b p)=true->my i (bY R) (bY W) (wH b (o.map λx=>(x.R,x.ws.map (·.1))))=true
 |[],_,_,_,_=>by simp[wH,my]
 |m::b,_,_,.nil,_=>by simp[wH,my]
 |m::b,_,_,.cons (x:=x) (t:=t) h1 h2 h,c=>by
  simp only[Le,my,J2,Qz]at c;simp only[J8,wH,my,J2,Qz];refine⟨?_,BR j k h c.2⟩;rcases c.1 with q|⟨d,e⟩
  . exact .inl q
  . right;have d:=Jd d;have e:=Jd e;have u:=k.and (h1.or h2) d;rw[Ag]at u;have y:=h2.and j e;rw[u,y];exact⟨rfl,rfl⟩
theorem AI:∀{k:Nat}{b:List Nat}{c:List Step}{d:List Da},Subs c d->qj k (Le b d)=true->qj k (wH b (c.map λx=>(x.R,x.ws.map (·.1))))=true
 |_,[],_,_,_,_=>by simp[wH,qj]
 |_,m::b,_,_,.nil,_=>by simp[wH,qj]
 |k,m::b,_,_,.cons (x:=x) (t:=t) h1 h2 h,hk=>by
  simp only[Le,qj,J2]at hk;simp only[J8,wH,qj,J2];exact⟨BR h1 h2 h hk.1,AI h hk.2⟩
theorem anyD_ok{b:Array Oper}{d:List Step}{e:List Da}(h:Subs d e)(c:Nr b e=true):Ej b (d.map λx=>(x.R,x.ws.map (·.1)))=true:=by
 simp only[Nr,J2]at c;simp only[Ej,J2];exact⟨c.1,AI h c.2⟩
theorem Fz(n:Nat):geo (n+1)=8*geo n+1:=by
 have b:∀n,8^n%7=1:=by
  intro n
  induction n with
  |zero=>rfl
  |succ n c=>rw[Xi,Nat.mul_mod,c]
 have h:=b n;have d:0<8^n:=Z4 (by omega);unfold geo;rw[Xi];omega
theorem tU:∀{n i:Nat},i<n->(geo n).testBit (3*i)=true
 |n+1,0,_=>by
  rw[Fz,Nat.mul_zero,Nat.testBit_zero];simp;omega
 |n+1,i+1,h=>by
  rw[Fz,show 3*(i+1)=3*i+3 from by omega,Nat.testBit_add,show 2^3=8 from rfl,show(8*geo n+1)/8=geo n from by omega];exact tU (by omega)
theorem FE(x k:Nat):(x*2).testBit (k+1)=x.testBit k:=by
 rw[show x*2=2*x from by omega,Nat.testBit_add];simp
theorem FR(x k:Nat):(x*4).testBit (k+2)=x.testBit k:=by
 rw[Nat.testBit_add,show 2^2=4 from rfl,show x*4/4=x from by omega]
theorem Io{n m i:Nat}(h:i<m):(Tw n m).testBit (Loc.mt i).enc=true:=by
 simp only[Tw,Loc.enc,Qc,FE,tU h,Bool.true_or]
theorem Qt{n m i q:Nat}(h:i<n)(b:q<64):(Tw n m).testBit (Loc.sg i q).enc=true:=by
 simp only[Tw,Loc.enc,Qc,FR,tU (show 64*i+q<64*n from by omega),Bool.or_true]
theorem I3{n k i:Nat}(b:n<=i)(h:i<n+k):(Sb n k).testBit (Loc.mt i).enc=true:=by
 simp only[Sb,Loc.enc,Qc,Nat.testBit_shiftLeft];have e:3*i+1-3*n=3*(i-n)+1:=by omega
 rw[e,FE,tU (by omega)];simp;omega
theorem Np{n k i q:Nat}(b:n<=i)(h:i<n+k)(c:q<64):(Sb n k).testBit (Loc.sg i q).enc=true:=by
 simp only[Sb,Loc.enc,Qc,Nat.testBit_shiftLeft];have e:3*(64*i+q)+2-192*n=3*(64*(i-n)+q)+2:=by omega
 rw[e,FR,tU (by omega)];simp;omega
theorem Iw{n m i:Nat}:∀{wr:List Nat},n<=i->i<m->(Ms n m wr).testBit (Loc.mt i).enc=true/\∀q,q<64->(Ms n m wr).testBit (Loc.sg i q).enc=true
 |[],h1,h2=>⟨I3 h1 (by omega),λq b=>Np h1 (by omega) b⟩
 |j::r,h1,h2=>by
  obtain⟨c,d⟩:=Iw (wr:=r) h1 h2;simp only[Ms,Qc];exact⟨by rw[c];simp,λq b=>by rw[d q b];simp⟩
theorem I7{n m i:Nat}:∀{b:List Nat},i∈b->(Ms n m b).testBit (Loc.mt i).enc=true/\∀q,q<64->(Ms n m b).testBit (Loc.sg i q).enc=true
 |j::r,h=>by
  simp only[Ms,Qc];rcases Kd.1 h with rfl|h
  . exact⟨by rw[I3 (J1 _) (by omega)];simp,λq c=>by rw[Np (J1 _) (by omega) c];simp⟩
  . obtain⟨d,e⟩:=I7 h;exact⟨by rw[d];simp,λq c=>by rw[e q c];simp⟩
theorem Tx.ki{s:cg}:∀{t:Tx}{R b:List Loc}{c:List (Loc×Item)},t.lh s R=some (b,c)->t.ok s.get c/\(∀l∈t.reads s.get,l∈b)/\∀l∈R,l∈b
 |.done c,R,b,q,h=>by
  simp[Tx.lh]at h;obtain⟨rfl,rfl⟩:=h;exact⟨rfl,by simp[Tx.reads],λ_ h=>h⟩
 |.rd l f,R,b,c,h=>by
  simp only[Tx.lh]at h;obtain⟨j,k,i⟩:=Tx.ki (t:=f (s.get l)) h;refine⟨j,λm e=>?_,λm e=>i m (by simp[e])⟩;simp only[Tx.reads,Kd]at e;rcases e with rfl|e
  . exact i _ (by simp)
  . exact k m e
 |.AU p a,R,b,c,h=>by simp[Tx.lh]at h
 |.kK p d a,R,b,c,h=>by
  cases d with
  |isFalse o=>simp[Tx.lh]at h
  |isTrue o=>
   simp only[Tx.lh]at h;obtain⟨j,k,i⟩:=Tx.ki (t:=a) h;exact⟨⟨o,j⟩,k,i⟩
 |.fail,R,b,c,h=>by simp[Tx.lh]at h
structure An (X : DX) : Prop where
 I : ∀ f fn, X.I f = some fn -> X.P.funcs[f]? = some fn /\ fn.body = some (mB fn) /\ (fn.name == "runtime.NumGoroutine") = false
 D : ∀ f d, X.D f = some d -> cS X.P f fun args => (d args).map fun r => (True, r)
 H : yf X.H
structure nE (X : DX) (call : Nat -> Func -> List SV -> cg -> rV) : Prop where
 ok : ∀ f fn args s r s', X.I f = some fn -> call f fn args s = .ok r s' -> GE s.nx s.en ->
  s.nx <= s'.nx /\ GE s'.nx s'.en /\ (∀ id, id < s.nx -> id ∉ s'.wr -> s'.en.at id = s.en.at id) /\
  ∀ (E : Env) (M : Nat) (σ : St) (ro : RO) (own : Own) (w : World) (a : Act) (vals : Array Value), s'.nx <= M -> bA E ro own (lU M s.en σ) w a -> aQ ro own args vals.toList ->
   Calls X.P f vals w fun e w' => ∃ v, e = .returned v /\ ∃ ro2 own2, own.le own2 /\ ga ro ro2 /\ bA E ro2 own2 (lU M s'.en σ) w' a /\ Rel ro2 own2 r v
structure tN (X : DX) (N : Nat) (ops : Array Oper) (i : Nat) (s s' : cg) (R : List Loc) (ws : List (Loc × Item)) : Prop where
 nx : s.nx <= s'.nx
 ge : GE s'.nx s'.en
 b0 : s'.b0 = s.b0
 P8 : ∀ id, id < s.b0 -> id ∉ s'.wr -> s'.en.at id = s.en.at id /\ id ∉ s.wr
 mx : ∀ M σ, s'.nx <= M -> mix M s' σ = (mix M s σ).apply ws
 st : ∀ (E : Env) M σ, E.N = N -> s'.nx <= M -> nV E X.P ops i (mix M s σ) R ws
section
variable {X : DX} {N : Nat} {ops : Array Oper} {i : Nat} {o : Oper}
theorem Hd{s k:cg}{R:List Loc}{c:List (Loc×Item)}(q:GE s.nx s.en)(B:s.b0<=s.nx)(r:s.app (c.map (iy cA))=some k)
 (d:∀(E:Env) M σ,E.N=N->k.nx<=M->∀(b:St),(∀l∈R,b l=mix M s σ l)->∀(w:World)(a:Act)(Q:Exit->Act->World->Prop)(K:Act->World->Prop),dL E b w a->(∀h j,dL E (b.apply c) j h->K h j)->wpOp X.P ops Q i K a w):
 tN X N ops i s k R (c.map (iy cA)):=by
 have ap:=MC r;refine⟨ap.nx,ap.ge q,ap.b0,λid u x=>ap.P8 id u (by omega) x,λM σ m=>YE ap q m,λE M σ y m b p w a Q K e z=>?_⟩;exact d E M σ y m b p w a Q K e λh j A=>z h j (A.weaken (wq cA c λl=>Ln.refl _))
def rU(N:Nat)(ops:Array Oper)(o:Oper)(s:cg)(d:List Loc)(b:Bool):Prop:=∀(E:Env) M σ,E.N=N->∀(c:St)(w:World)(a:Act),(∀l∈d,c l=mix M s σ l)->dL E c w a->Region.wanted o (yielded ops a.tmps)=b
theorem op_one(y:yf X.H){s k:cg}{r R:List Loc}{b:List (Loc×Item)}(m:ops[i]?=some o)(z:rU N ops o s r true)(A:GE s.nx s.en)(B:s.b0<=s.nx)(d:(Zo X.P X.H N s.nx o).lh s r=some (R,b))(C:s.app (b.map (iy cA))=some k)(D:nK k.nx R=true):
 tN X N ops i s k R (b.map (iy cA)):=by
 obtain⟨F,u,G⟩:=Tx.ki d;refine Hd A B C λE M σ x J e h w a Q K c L=>?_
 unfold wpOp;rw[m];simp only[z E M σ x e w a (λl j=>h l (G l j)) c,JE];left;obtain⟨ro,own,p⟩:=c;have q:(Zo X.P X.H E.N s.nx o).ok e b:=by
  rw[x];exact Tx.local _ (λl j=>by rw[h l (u l j),CO (kQ J (mg D l (u l j)))]) _ F
 exact Oper.wp_mono (λO Z h'=>L O Z h') (VE p y q Q)
theorem Ov{s m:cg}{p:List Loc}(e:ops[i]?=some o)(r:∀d,o.dst=some d->d<N)(u:rU N ops o s p false)(x:GE s.nx s.en)(y:s.b0<=s.nx)(z:s.app ((lL o.dst).map (iy cA))=some m):
 tN X N ops i s m p ((lL o.dst).map (iy cA)):=by
 refine Hd x y z λE M σ q B h j w a Q K b A=>?_
 unfold wpOp;rw[e];simp only[u E M σ q h w a j b,Jr,JF];refine A _ _ ?_;obtain⟨ro,own,c⟩:=b;cases k:o.dst with
 |none=>exact⟨ro,own,c⟩
 |some d=>exact⟨ro,own,c.put (by rw[q];exact r d k) (.df _ [] #[] rfl (by simp))⟩
theorem callOf_ok{E:Env}{p:RO}{d:Own}{s:cg}{e:St}{w:World}{a:Act}{f:Nat}{x y:List SV}{c:Call}(h:aaJ s o=some (f,x,y,c))(q:∀t,c.callee=.value (.tmp t)->e (.tm t)=s.get (.tm t))(z:bA E p d e w a):
 ∃g k m,o.op=.call c/\c.callee=.value g/\a.eval g=.func (.func f) k m/\aQ p d x k.toList/\aQ p d y m.toList:=by
 unfold aaJ at h;split at h
 case h_2=>cases h
 rename_i G j;split at h
 . rename_i A b;simp only[J3,Q4]at h;obtain⟨rfl,rfl,rfl,rfl⟩:=h;exact⟨_, #[], #[],j,b,rfl,trivial,trivial⟩
 . rename_i t b;split at h
   case h_2=>cases h
   rename_i A B C D;simp only[J3,Q4]at h;obtain⟨rfl,rfl,rfl,rfl⟩:=h;obtain⟨k,m,F,r,u⟩:=Hc (z.tm t _ (by rw[q t b];exact D));exact⟨_,k,m,j,b,F,r,u⟩
 . cases h
theorem zC {E:Env} {ro:RO} {own:Own} {s:cg} {s'':St} {M:Nat} {σ:St} {w:World} {a:Act} {f:Nat} {fn:Func} {ca cb xs:List SV} {c:Call} {R0 R:List Loc} (h:aaJ s o=some (f,ca,cb,c)) (hrd:(jI c.args.toList λxs=>.done [(.tm 0,.v (.df xs))]).lh s (Gz c R0)=some (R,[(.tm 0,.v (.df xs))])) (htm:∀l∈R,s'' l=mix M s σ l) (hR:∀l∈R,gF M l)
 (hg:bA E ro own s'' w a) (hf:X.P.funcs[f]?=some fn/\fn.body.isSome=true/\(fn.name== "runtime.NumGoroutine")=false):
 ∃vals:Array Value,(execOp a.eval o).run X.P w=.ok (.enter f vals) w/\aQ ro own (ca++xs++cb) vals.toList:=by
 obtain⟨h1,h2,h3⟩:=Tx.ki hrd;have hag:∀t,c.callee=.value (.tmp t)->s'' (.tm t)=s.get (.tm t):=λt hc=>by
  have hm:Loc.tm t∈R:=h3 _ (by simp[Gz,hc]);rw[htm _ hm];rfl
 obtain⟨g,va,vb,hop,hcc,hv,hva,hvb⟩:=callOf_ok h hag hg;have hok:(jI c.args.toList λxs=>Tx.done [(.tm 0,.v (.df xs))]).ok s'' [(.tm 0,.v (.df xs))]:=
  Tx.local _ (λl hl=>by rw[htm l (h2 l hl),CO (hR l (h2 l hl))]) _ h1
 obtain⟨xs',hxs,hws⟩:=ku hg hok;have hx:xs'=xs:=by
  have:[(Loc.tm 0,Item.v (.df xs'))]=[(Loc.tm 0,Item.v (.df xs))]:=hws;simp at this;exact this
 subst hx;refine⟨va++c.args.map a.eval++vb,?_,?_⟩
 . unfold execOp;simp only[hop,resolve,hcc,hv,Deferred.ofValue,Sem.run_bind,Sem.run_pure,Result.andThen_ok,invoke];exact uJ hf.1 hf.2.1 hf.2.2
 . simp only[Array.toList_append,Array.toList_map];exact(hva.append hxs).append hvb
theorem vL{e c:RO}{d b:Own}{x:SV}{v:Value}(h:Rel e d x v)(j:scal1 x=true):Rel c b x v:=by
 cases x<;>simp[scal1]at j<;>(cases h;first|(constructor;done)|(constructor<;>assumption))
theorem yu:∀{l:List ar},uM l=true->∀k b,flat l k=some b->scal1 b=true
 |[],_,k,b,h=>by simp[flat]at h
 |.s v::r,hc,k,b,h=>by
  simp only[uM,J2]at hc;cases k with
  |zero=>rw[cC]at h;simp at h;subst h;exact hc.1
  |succ k=>rw[cB]at h;exact yu hc.2 k b h
 |.a n es f::r,hc,_,_,_=>by simp[uM]at hc
theorem By{m c:RO}{d b:Own}{l:List ar}{v:Value}(h:Rel m d (.agg l) v)(p:uM l=true):Rel c b (.agg l) v:=by
 obtain⟨w,q,r,u⟩:=cU h;rw[q];exact .agg _ _ _ r λk e j=>vL (u k e j) (yu p k e j)
theorem Fe:∀{l:List SV},Az l=true->∀(i:Nat)(b:SV),l[i]?=some b->(∃g,b=.agg g/\uM g=true)\/scal1 b=true
 |x::r,c,i,b,h=>by
  have d:Az r=true/\((∃g,x=.agg g/\uM g=true)\/scal1 x=true):=by
   cases x<;>simp only[Az,J2]at c<;>first|exact⟨c.2,.inl ⟨_,rfl,c.1⟩⟩|exact⟨c.2,.inr c.1⟩
  cases i with
  |zero=>simp at h;subst h;exact d.2
  |succ i=>simp at h;exact Fe d.1 i b h
 |[],_,i,b,h=>by simp at h
theorem PE{p c:RO}{d b:Own}{x:SV}{v:Value}(h:Rel p d x v)(e:VD x=true):Rel c b x v:=by
 cases x
 case agg l=>exact By h e
 case df l=>
  obtain⟨y,q,r,k⟩:=jt h;rw[q];refine .df _ _ _ r λi m j=>?_
  rcases Fe e i m j with⟨g,rfl,u⟩|w
  . exact By (k i _ j) u
  . exact vL (k i m j) w
 all_goals exact vL h e
theorem NT{s s':cg}{R0 R R2:List Loc}{f:Nat}{ca cb O j:List SV}{c:Call}{d:List SV->Option SV}{r:SV}{k:List (Loc×Item)}(hX:An X)(az:ops[i]?=some o)(hd:∀d,o.dst=some d->d<N)(hw:rU N ops o s R0 true)(hg:GE s.nx s.en)(hb:s.b0<=s.nx)
 (hc:aaJ s o=some (f,ca,cb,c)) (Z:(jI c.args.toList λO=>.done [(.tm 0,.v (.df O))]).lh s (Gz c R0)=some (R,[(.tm 0,.v (.df O))]))
 (aD:X.D f=some d) (ac:(cn (ca++O++cb) λj ws=>.done ((.tm 0,.v (.df j))::ws)).lh s R=some (R2,(.tm 0,.v (.df j))::k)) (bb:d (j.map (norm cA))=some r)
 (hs:s.app ((IP r k o.dst).map (iy cA))=some s') (hR:nK s'.nx R2=true):
 tN X N ops i s s' R2 ((IP r k o.dst).map (iy cA)):=by
 obtain⟨h1,h2,h3⟩:=Tx.ki Z;obtain⟨k1,k2,k3⟩:=Tx.ki ac;refine Hd hg hb hs λE M σ hN hM z H w a Q K F hK=>?_
 have G:∀l∈R2,gF M l:=λl y=>kQ hM (mg hR l y)
 unfold wpOp;rw[az];simp only[hw E M σ hN z w a (λl y=>H l (k3 l (h3 l (by unfold Gz;split<;>simp[y])))) F,JE];left;obtain⟨ro,own,A⟩:=F;have ad:=hX.D f d aD;obtain⟨fn,e1,e2,e3⟩:=ad.fn;obtain⟨m,al,aq⟩:=zC (o:=o) (X:=X) (M:=M) (σ:=σ) hc Z (λl y=>H l (k3 l y)) (λl y=>G l (k3 l y)) A ⟨e1,e2,e3⟩;have bd:(cn (ca++O++cb) λj ws=>.done ((.tm 0,.v (.df j))::ws)).ok z ((.tm 0,.v (.df j))::k):=
  Tx.local _ (λl y=>by rw[H l (k2 l y),CO (G l (k2 l y))]) _ k1
 obtain⟨J,be,B,bf,bL,aw,bh⟩:=iw (s:=z) ⟨λ_ _=>rfl,λ_=>.inl rfl⟩ A aq bd;have hq:(Loc.tm 0,Item.v (.df J))::be=(Loc.tm 0,Item.v (.df j))::k:=bf;simp only[Qw,Q4,Item.v.injEq,SV.df.injEq,JL]at hq;obtain⟨rfl,rfl⟩:=hq;have bi:aQ B Own.empty (J.map (norm cA)) m.toList:=by
  have:∀{l:List SV}{vs:List Value},aQ B Own.empty l vs->aQ B Own.empty (l.map (norm cA)) vs:=by
   intro l
   induction l with
   |nil=>intro vs h;exact h
   |cons x r ih=>
    intro vs h
    match vs,h with
    |v::vr,h=>exact⟨nb cA x _ _ _ h.1,ih h.2⟩
  exact this bh
 have C:=ad.calls (J.map (norm cA)) True r (by simp[bb]) trivial B w m aw.cJ bi;unfold Oper.wp;rw[al];show Calls X.P f m w _
 refine C.mono ?_;rintro e w' ⟨v,R',rfl,hv,bp,ax,ay,p⟩;show K (a.put o.dst v) w'
 refine hK _ _ ?_;have put:∀{s1:St}{q:RO},bA E q own s1 w' a->Rel q own r v->dL E (s1.apply (yj o.dst r)) w' (a.put o.dst v):=by
  intro s1 q h hr;unfold yj;cases bt:o.dst with
  |none=>exact⟨q,own,h⟩
  |some d=>exact⟨q,own,h.put (by rw[hN];exact hd d bt) hr⟩
 unfold IP;cases bv:VD r with
 |true=>
  have L:bA E ro own z w' a:=A.called p (.refl _) (λb o' u hu=>by
   have:=A.cJ b o' u hu;have bz:b<w.heap.size:=block_lt_of_cell this.1;have bF:=p.block b bz;exact this.of_heap bF) (λ_ _ _=>rfl)
  exact put L (PE hv bv)
 |false=>
  simp only;rw[aM];exact put (aw.called p bp ax ay) (hv.own (Own.empty_le _))
end
end Go.Sx
