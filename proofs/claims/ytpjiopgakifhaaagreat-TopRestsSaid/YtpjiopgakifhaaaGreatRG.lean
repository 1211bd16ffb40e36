import Derived.Test.YtpjiopgakifhaaaGreatRA
import Derived.Test.YtpjiopgakifhaaaGreatRF
import Derived.Test.YtpjiopgakifhaaaGreatRD
import Derived.Scope
set_option linter.constructorNameAsVariable false
set_option linter.unusedSectionVars false
set_option linter.unusedSimpArgs false
set_option linter.unusedVariables false
set_option maxRecDepth 100000
namespace Go.Sx
open Go Go.RowKit
variable [bW]
theorem AO(g:Loc->Item):∀(c:List (Loc×Item))(σ:St),(∀x∈c,x.2=g x.1)->∀l,(σ.apply c) l=if l∈c.map (·.1)then g l else σ l
 |[],σ,_,l=>by simp[St.apply]
 |(d,x)::r,σ,h,l=>by
  simp only[St.apply];rw[AO g r _ (λy i=>h y (by simp[i])) l];have j:x=g d:=h (d,x) (by simp)
  by_cases b:l∈r.map (·.1)
  . rw[JB b,JB (by simp only[J8,Kd];exact .inr b)]
  . rw[JA b]
    by_cases e:l=d
    . subst e;rw[St.cQ,JB (by simp),j]
    . rw[St.bh _ _ e,JA (by simp only[J8,Kd];rintro(q|q);exact e q;exact b q)]
def Hz(b:Trie Rn):Loc->Item
 |.tm t=>.v .any
 |.mt id=>.m ((b.at id).map (·.1))
 |.sg id q=>.s (((b.at id).bind λe=>e.2[q]?).getD (.s .any))
def Eh(b:Nat):List Loc:=.mt b::(List.range 64).map (.sg b ·)
def Lj(c:Trie Rn)(b:List Nat):List (Loc×Item):=(b.flatMap Eh).map λl=>(l,Hz c l)
theorem jD{b:Nat}{l:Loc}:l∈Eh b↔l=.mt b\/∃q,q<64/\l=.sg b q:=by
 simp only[Eh,Kd,Kh,Kn];constructor
 . rintro(h|⟨q,c,rfl⟩)
   . exact .inl h
   . exact .inr ⟨q,c,rfl⟩
 . rintro(h|⟨q,c,rfl⟩)
   . exact .inl h
   . exact .inr ⟨q,c,rfl⟩
theorem nD(c:Trie Rn)(b:List Nat)(σ:St)(l:Loc):(σ.apply (Lj c b)) l=if l∈b.flatMap Eh then Hz c l else σ l:=by
 rw[AO (Hz c) _ _ (λx d=>?_)]
 . congr 1
   simp[Lj,List.map_map,Xo]
 . simp only[Lj,Kh]at d;obtain⟨e,_,rfl⟩:=d;rfl
def lk(n m:Nat)(b:List Nat):List Nat:=(List.range m).filter λid=>decide (n<=id\/id∈b)
theorem ie{n m:Nat}{c:List Nat}{b:Nat}:b∈lk n m c↔b<m/\(n<=b\/b∈c):=by
 simp[lk]
section
variable {X : DX} {N : Nat} {ops : Array Oper} {i : Nat} {o : Oper}
def rR(n m:Nat):List Loc:=(List.range m).map (.mt ·)++(List.range n).flatMap Eh
theorem callRd_mt{n m b:Nat}(h:b<m):Loc.mt b∈rR n m:=by simp[rR,h]
theorem Zk{n m b q:Nat}(h:b<n)(c:q<64):Loc.sg b q∈rR n m:=by
 simp only[rR,Xt,X1,Kn];exact .inr ⟨b,h,jD.2 (.inr ⟨q,c,rfl⟩)⟩
theorem C6(n m:Nat)(h:n<=m):Sub (rR n m) (Tw n m):=by
 intro l c;simp only[rR,Xt,Kh,X1,Kn]at c;rcases c with⟨id,b,rfl⟩|⟨id,b,d⟩
 . exact Io b
 . rcases jD.1 d with rfl|⟨q,e,rfl⟩
   . exact Io (by omega)
   . exact Qt b e
theorem Fp(e:Trie Rn)(n m:Nat)(c:List Nat):Sub ((Lj e (lk n m c)).map (·.1)) (Ms n m c):=by
 intro l d;simp only[Lj,List.map_map,Xo,List.map_id']at d;obtain⟨id,h,j⟩:=X1.1 d;obtain⟨k,b⟩:=ie.1 h;have key:(Ms n m c).testBit (Loc.mt id).enc=true/\∀q,q<64->(Ms n m c).testBit (Loc.sg id q).enc=true:=by
  rcases b with b|b
  . exact Iw b k
  . exact I7 b
 rcases jD.1 j with rfl|⟨q,p,rfl⟩
 . exact key.1
 . exact key.2 q p
theorem Iq{d:Nat}{c:Trie Rn}(h:GE d c){b:Nat}(k:d<=b):c.at b=none:=by
 cases j:c.at b with
 |none=>rfl
 |some e=>have:=(h b e j).2.2;omega
theorem TS{d:Nat}{b:Trie Rn}(h:GE d b){c q:Nat}(k:64<=q):((b.at c).bind λe=>e.2[q]?).getD (.s .any)=.s .any:=by
 cases j:b.at c with
 |none=>rfl
 |some e=>
  have:=(h c e j).2.1;simp only[Xg];rw[J7 (by omega)];rfl
theorem Fq{F:Nat->Func->List SV->cg->rV}(hX:An X)(ad:nE X F){s j:cg}{R0 R:List Loc}{f:Nat}{fn:Func}{ca cb xs:List SV}{c:Call}{r:SV}{tm':Trie SV}
 (bp:ops[i]?=some o) (hd:∀d,o.dst=some d->d<N) (hw:rU N ops o s R0 true) (hg:GE s.nx s.en) (hb:s.b0<=s.nx)
 (hc:aaJ s o=some (f,ca,cb,c)) (ay:(jI c.args.toList λxs=>.done [(.tm 0,.v (.df xs))]).lh s (Gz c R0)=some (R,[(.tm 0,.v (.df xs))]))
 (hf:X.I f=some fn) (az:F f fn (ca++xs++cb) s=.ok r j) (bt:∀t,(tm'.at t).getD (.df [])=if o.dst=some t then norm cA r else(s.tm.at t).getD (.df [])) (bv:nK s.nx R=true):
 tN X N ops i s ⟨tm',j.en,j.nx,s.b0,j.wr.filter (Nat.blt · s.b0)++s.wr⟩ (R++rR s.nx j.nx) (yj o.dst (norm cA r)++Lj j.en (lk s.nx j.nx j.wr)):=by
 obtain⟨c1,c2,c3,c4⟩:=ad.ok f fn _ s r j hf az hg;have same:∀id,id∉lk s.nx j.nx j.wr->j.en.at id=s.en.at id:=λid b=>by
  rw[ie]at b;rcases Kv id s.nx with B|B
  . exact c3 id B (λhw=>b ⟨by omega,.inr hw⟩)
  . rcases Kv id j.nx with y|y
    . exact(b ⟨y,.inl B⟩).elim
    . rw[Iq c2 y,Iq hg B]
 have k:∀(S:St)(l:Loc),(S.apply (yj o.dst (norm cA r))) l=match l with
  |.tm t=>if o.dst=some t then .v (norm cA r)else S (.tm t)
  |l=>S l:=by
  intro S l;unfold yj;cases aD:o.dst with
  |none=>cases l<;>simp[St.apply]
  |some d=>
   simp only[St.apply];cases l with
   |tm t=>
    simp only[St.put,Loc.tm.injEq,J3]
    by_cases e:t=d
    . subst e;simp
    . rw[JA e,JA (λh=>e h.symm)]
   |mt id=>simp[St.put]
   |sg id q=>simp[St.put]
 have G:∀t ids,Loc.tm t∉List.flatMap Eh ids:=λt ids h=>by
  obtain⟨id,_,y⟩:=X1.1 h;rcases jD.1 y with A|⟨q,_,A⟩<;>cases A
 have bb:∀id ids,Loc.mt id∈List.flatMap Eh ids↔id∈ids:=λid ids=>by
  constructor
  . intro h;obtain⟨bz,B,y⟩:=X1.1 h;rcases jD.1 y with A|⟨q,_,A⟩
    . cases A;exact B
    . cases A
  . intro h;exact X1.2 ⟨id,h,jD.2 (.inl rfl)⟩
 have bd:∀id q ids,Loc.sg id q∈List.flatMap Eh ids↔id∈ids/\q<64:=λid q ids=>by
  constructor
  . intro h;obtain⟨bz,B,y⟩:=X1.1 h;rcases jD.1 y with A|⟨q',z,A⟩
    . cases A
    . cases A;exact⟨B,z⟩
  . intro h;exact X1.2 ⟨id,h.1,jD.2 (.inr ⟨q,h.2,rfl⟩)⟩
 refine⟨c1,c2,rfl,λid B y=>?_,λM σ hM=>?_,λE M σ hN hM u al w a Q K H hK=>?_⟩
 . simp only[Xt,List.mem_filter,not_or,not_and]at y;refine⟨c3 id (by omega) λhw=>?_,y.2⟩;exact y.1 hw (by rw[zb];exact B)
 . rw[aM]
   funext l
   rw[nD,k];simp only at hM;cases l with
   |tm t=>
    rw[JA (G t _)];simp only[mix,cg.get];rw[bt];split<;>rfl
   |mt id=>
    simp only[bb,mix,cg.get,Hz]
    by_cases b:id∈lk s.nx j.nx j.wr
    . rw[JB b,JB (by have:=(ie.1 b).1;omega)]
    . rw[JA b,same id b]
   |sg id q=>
    simp only[bd,mix,cg.get,Hz]
    by_cases C:id<M
    . rw[JB C,JB C]
      by_cases b:id∈lk s.nx j.nx j.wr
      . by_cases z:q<64
        . rw[JB ⟨b,z⟩]
        . rw[JA (λh=>z h.2),TS c2 (by omega),TS hg (by omega)]
      . rw[JA (λh=>b h.1),same id b]
    . have b:id∉lk s.nx j.nx j.wr:=λh=>C (by have:=(ie.1 h).1;omega)
      rw[JA C,JA C,JA (λh=>b h.1)]
 . simp only at hM;obtain⟨B,y,A⟩:=Tx.ki ay;have be:∀l∈R,gF M l:=λl hl=>kQ (by omega) (mg bv l hl)
   have J:∀l∈R,u l=mix M s σ l:=λl hl=>al l (by simp[hl])
   obtain⟨e1,e2,e3⟩:=hX.I f fn hf;unfold wpOp;rw[bp];simp only[hw E M σ hN u w a (λl hl=>J l (A l (by unfold Gz;split<;>simp[hl]))) H,JE];left;obtain⟨ro,own,bf⟩:=H;obtain⟨L,aq,bh⟩:=zC (o:=o) (X:=X) (M:=M) (σ:=σ) hc ay J be bf ⟨e1,by simp[e2],e3⟩;have aw:∀id,id<j.nx->u (.mt id)=.m ((s.en.at id).map (·.1)):=λid b=>by
    rw[al (.mt id) (by simp[callRd_mt b])];simp only[mix,cg.get];rw[JB (by omega)]
   have O:∀id q,id<s.nx->q<64->u (.sg id q)=.s (((s.en.at id).bind λe=>e.2[q]?).getD (.s .any)):=λid q b z=>by
    rw[al (.sg id q) (by simp[Zk b z])];simp only[mix,cg.get];rw[JB (by omega)]
   have ax:bA E ro own (lU j.nx s.en u) w a:=by
    refine bf.congr (λt=>rfl) (λid=>?_) λid m q x z=>?_
    . simp only[lU];split
      . rename_i b;rw[aw id b]
      . rfl
    . simp only[lU];split
      . rename_i b;rw[aw id b]at x;cases D:s.en.at id with
        |none=>rw[D]at x;simp at x
        |some e=>
         rw[D]at x;simp at x;obtain⟨g1,g2,g3⟩:=hg id e D;rw[O id q g3 (by rcases z with z|z;rw[x]at g1;omega;omega),D]
      . rfl
   have bF:=c4 E j.nx u ro own w a L (J1 _) ax bh;unfold Oper.wp;rw[aq];show Calls X.P f L w _
   refine bF.mono ?_;rintro e w' ⟨v,rfl,bi,Z,k1,k2,k3,k4⟩;show K (a.put o.dst v) w'
   refine hK _ _ ?_;have k4:=nb cA r _ _ _ k4;have put:bA E bi Z ((lU j.nx j.en u).apply (yj o.dst (norm cA r))) w' (a.put o.dst v):=by
    unfold yj;cases aD:o.dst with
    |none=>exact k3
    |some d=>exact k3.put (by rw[hN];exact hd d aD) k4
   refine⟨bi,Z,put.congr (λt=>?_) (λid=>?_) λid m q x z=>?_⟩
   . rw[aM,nD,k,k,JA (G t _)];rfl
   . rw[aM,nD,k,k];simp only[bb,Hz,lU]
     by_cases b:id∈lk s.nx j.nx j.wr
     . rw[JB b,JB (ie.1 b).1]
     . rw[JA b];split
       . rename_i p;rw[aw id p,same id b]
       . rfl
   . rw[k]at x;rw[aM,nD,k,k];simp only[bd,Hz,lU]at x⊢
     by_cases p:id<j.nx
     . rw[JB p]at x;cases D:j.en.at id with
       |none=>rw[D]at x;simp at x
       |some e=>
        rw[D]at x;simp at x;obtain⟨g1,g2,g3⟩:=c2 id e D;have ac:q<64:=by rcases z with z|z;rw[x]at g1;omega;omega
        by_cases b:id∈lk s.nx j.nx j.wr
        . rw[JB ⟨b,ac⟩,JB p]
        . rw[JA (λh=>b h.1),JB p];have bL:id<s.nx:=by
           rw[ie]at b;rcases Kv id s.nx with h|h
           . exact h
           . exact(b ⟨p,.inl h⟩).elim
          rw[O id q bL ac,<-same id b,D]
     . rw[JA p];have b:id∉lk s.nx j.nx j.wr:=λh=>p (ie.1 h).1
       rw[JA (λh=>b h.1)]
end
end Go.Sx
namespace Go.Sx
open Go Go.RowKit
variable [bW]
section
variable {X : DX} {N F : Nat} {call : Nat -> Func -> List SV -> cg -> rV} {ops : Array Oper}
theorem Db{i:Nat}{s c:cg}{R:List Loc}{b:List (Loc×Item)}{t:Da}(h:FH F i s R b=.ok c t):s.app (b.map (iy cA))=some c/\nK c.nx R=true/\t=(bY R,bY ((b.map (iy cA)).map (·.1))):=by
 simp only[FH,FW,EW]at h;cases e:s.app (b.map (iy cA))with
 |none=>rw[e]at h;simp[cZ]at h
 |some j=>
  rw[e]at h;simp only[cZ]at h;cases d:nK j.nx R with
  |false=>rw[d]at h;simp at h
  |true=>
   rw[d]at h;simp only[Au.ok.injEq]at h;obtain⟨rfl,rfl⟩:=h;exact⟨rfl,d,rfl⟩
theorem xR(A:An X)(b:nE X call){i:Nat}{o:Oper}{s B:cg}{C R:List Loc}{t:Da}{f:Nat}{D E q:List SV}{c:Call}(m:ops[i]?=some o)(G:∀d,o.dst=some d->d<N)(H:rU N ops o s C true)(u:GE s.nx s.en)(J:s.b0<=s.nx)
 (K:aaJ s o=some (f,D,E,c)) (p:(jI c.args.toList λq=>.done [(.tm 0,.v (.df q))]).lh s (Gz c C)=some (R,[(.tm 0,.v (.df q))])) (h:codeD X F call o i s f (D++q++E) R=.ok B t):
 ∃R L,tN X N ops i s B R L/\Sub R t.1/\Sub (L.map (·.1)) t.2:=by
 unfold codeD at h;split at h
 . rename_i fn w;unfold S0 at h;split at h
   . rename_i r O en nx b1 wr j;rw[ug]at h;obtain⟨tm,Z,y,b0,ac⟩:=s;simp only at h;cases x:nK y R with
     |false=>rw[x]at h;cases h
     |true=>
      rw[x]at h;simp only at h;cases k:o.dst with
      |none=>
       rw[k]at h;simp only[Au.ok.injEq]at h;obtain⟨rfl,rfl⟩:=h;have one:=Fq (o:=o) (ops:=ops) (i:=i) A b m G H u J K p w j (tm':=tm) (λt=>by simp[k]) x;refine⟨_,_,one,(Sub.self R).or (C6 _ _ ?_),?_⟩
       . exact(b.ok f fn _ _ r _ w j u).1
       . rw[k];simp only[yj,Jj,Wt,Nat.zero_or];exact Fp _ _ _ _
      |some d=>
       rw[k]at h;simp only[Trie.put_eq]at h;cases z:Trie.ins jX tm d (norm cA r)with
       |none=>rw[z]at h;simp[cZ]at h
       |some tm'=>
        rw[z]at h;simp only[cZ,Au.ok.injEq]at h;obtain⟨rfl,rfl⟩:=h;have one:=Fq (o:=o) (ops:=ops) (i:=i) A b m G H u J K p w j (tm':=tm') (λt=>by
         rw[Trie.pY _ z,k]
         by_cases e:t=d
         . subst e;simp
         . rw[JA e,JA (λh=>e (by simpa using h.symm))]) x
        refine⟨_,_,one,(Sub.self R).or (C6 _ _ ?_),?_⟩
        . exact(b.ok f fn _ _ r _ w j u).1
        . rw[k,Qx];refine Sub.or ?_ (Fp _ _ _ _);intro l M;simp[yj]at M;subst M;simp[Wt,Loc.enc,Ze,Nat.testBit_two_pow_self]
   . cases h
 . cases h
theorem yq(k:An X)(b:nE X call){i:Nat}{o:Oper}{s G:cg}{R0:List Loc}{t:Da}(e:ops[i]?=some o)(z:∀d,o.dst=some d->d<N)(m:rU N ops o s R0 true)(p:GE s.nx s.en)(q:s.b0<=s.nx)(h:Fx X N F call o i s R0=.ok G t):
 ∃R A,tN X N ops i s G R A/\Sub R t.1/\Sub (A.map (·.1)) t.2:=by
 unfold Fx at h;split at h
 . rename_i f L M c u;split at h
   . rename_i R O j;split at h
     . rename_i d B;unfold Td at h;split at h
       . rename_i Z J K w;rw[pZ (ug cA)]at h;split at h
         . rename_i r C;obtain⟨D,E,x⟩:=Db h;have:=NT (o:=o) (ops:=ops) (i:=i) k e z m p q u j B w C D E;refine⟨_,_,this,?_,?_⟩
           . rw[x];exact Sub.self _
           . rw[x];exact Sub.self _
         . exact xR k b e z m p q u j h
       . exact xR k b e z m p q u j h
     . exact xR k b e z m p q u j h
   . cases h
 . rename_i u;split at h
   . rename_i R A y;obtain⟨D,E,x⟩:=Db h;refine⟨_,_,op_one k.H e m p q y D E,?_,?_⟩
     . rw[x];exact Sub.self _
     . rw[x];exact Sub.self _
   . cases h
theorem Mm(O:An X)(m:nE X call){i:Nat}{o:Oper}{s G:cg}{t:Da}(r:ops[i]?=some o)(Z:∀t,(match o.guard with|some (j,_)=>ir ops j=some t->t<N|none=>True))(H:∀d,o.dst=some d->d<N)(J:GE s.nx s.en)(K:s.b0<=s.nx)(h:I1 X N F call ops o i s=.ok G t):
 ∃R A,tN X N ops i s G R A/\Sub R t.1/\Sub (A.map (·.1)) t.2:=by
 have skip:∀{L:List Loc},rU N ops o s L false->FH F i s L (lL o.dst)=.ok G t->∃R A,tN X N ops i s G R A/\Sub R t.1/\Sub (A.map (·.1)) t.2:=by
  intro L hw h;obtain⟨k1,k2,k3⟩:=Db h;refine⟨_,_,Ov r H hw J K k1,?_,?_⟩
  . rw[k3];exact Sub.self _
  . rw[k3];exact Sub.self _
 unfold I1 at h;split at h
 . rename_i k;exact yq O m r H (R0:=[]) (λ_ _ _ _ _ _ _ _ _=>by simp[Region.wanted,k]) J K h
 . rename_i j want k;split at h
   case h_2=>cases h
   rename_i t0 hj;have ac:t0<N:=by
    have:=Z t0;rw[k]at this;exact this hj
   have yl:∀{x:SV}(E:Env)(M:Nat)(σ:St),E.N=N->s.get (.tm t0)=.v x->∀(c:St)(w:World)(a:Act),(∀l∈[Loc.tm t0],c l=mix M s σ l)->dL E c w a->∃v,(∃ro own,Rel ro own x v)/\yielded ops a.tmps j=match v with|.bool b=>some b|_=>none:=by
    intro x E M σ p y c w a e q;have B:c (.tm t0)=.v x:=by rw[e _ (by simp)];exact y
    obtain⟨ro,own,C⟩:=q;have u:=C.tm t0 x B;exact⟨_,⟨ro,own,u⟩,yV ⟨ro,own,C⟩ hj (by rw[p];exact ac) B _ ⟨ro,own,u,rfl⟩⟩
   split at h
   . rename_i y;have D:∀(E:Env) M σ,E.N=N->∀(c:St)(w:World)(a:Act),(∀l∈[Loc.tm t0],c l=mix M s σ l)->dL E c w a->yielded ops a.tmps j=some true:=λE M σ p c w a e q=>by
      obtain⟨v,⟨_,_,u⟩,z⟩:=yl E M σ p y c w a e q;rw[z,nX u]
     split at h
     . exact yq O m r H (λE M σ p c w a e q=>by simp[Region.wanted,k,D E M σ p c w a e q]) J K h
     . exact skip (λE M σ p c w a e q=>by simp[Region.wanted,k,D E M σ p c w a e q]) h
   . rename_i y;have D:∀(E:Env) M σ,E.N=N->∀(c:St)(w:World)(a:Act),(∀l∈[Loc.tm t0],c l=mix M s σ l)->dL E c w a->yielded ops a.tmps j=some false:=λE M σ p c w a e q=>by
      obtain⟨v,⟨_,_,u⟩,z⟩:=yl E M σ p y c w a e q;rw[z,qD u]
     split at h
     . exact skip (λE M σ p c w a e q=>by simp[Region.wanted,k,D E M σ p c w a e q]) h
     . exact yq O m r H (λE M σ p c w a e q=>by simp[Region.wanted,k,D E M σ p c w a e q]) J K h
   . rename_i y;refine skip (λE M σ p c w a e q=>?_) h;obtain⟨v,⟨_,_,u⟩,z⟩:=yl E M σ p y c w a e q;obtain⟨vs,hv,_⟩:=jt u;rw[hv]at z;simp[Region.wanted,k,z]
   . cases h
structure oW (s s1 : cg) : Prop where
 nx : s.nx <= s1.nx
 ge : GE s1.nx s1.en
 b0 : s1.b0 = s.b0
 P8 : ∀ id, id < s.b0 -> id ∉ s1.wr -> s1.en.at id = s.en.at id /\ id ∉ s.wr
theorem oW.refl{s:cg}(h:GE s.nx s.en):oW s s:=⟨J1 _,h,rfl,λid _ b=>⟨rfl,b⟩⟩
theorem oW.trans{a b c:cg}(h:oW a b)(k:oW b c):oW a c:=by
 refine⟨Jn h.nx k.nx,k.ge,k.b0.trans h.b0,λid d e=>?_⟩;obtain⟨i,j⟩:=k.P8 id (by rw[h.b0];exact d) e;obtain⟨m,o⟩:=h.P8 id d j;exact⟨i.trans m,o⟩
theorem FB(K:An X)(c:nE X call){b:Bool}:∀{l:List Oper}{i:Nat}{s:cg}{z:List Da}{k:cg->List Da->Out}{o:Out},AE X N F call ops b l i s z k=o->(∀f i,o≠ .bad f i)->GE s.nx s.en->s.b0<=s.nx->(∀j,j<l.length->l[j]?=ops[i+j]?)->
 (∀o∈l,∀t,(match o.guard with|some (j,_)=>ir ops j=some t->t<N|none=>True))->(∀o∈l,∀d,o.dst=some d->d<N)->
 ∃(p:List Step)(q:cg)(e:List Da),p.length=l.length/\k q e=o/\(b=true->∃mk,e=z++mk/\Subs p mk)/\oW s q/\(∀M σ,q.nx<=M->mix M q σ=(mix M s σ).apply (p.flatMap (·.ws)))/\
  ∀(E:Env) M σ,E.N=N->q.nx<=M->∀(m:Nat)(x:Step),p[m]?=some x->nV E X.P ops (i+m) ((mix M s σ).apply ((p.take m).flatMap (·.ws))) x.R x.ws
 |[],i,s,z,k,o,h,hgood,hg,hb,_,_,_=>⟨[],s,z,rfl,h,λ_=>⟨[],by simp,.nil⟩,.refl hg,λ_ _ _=>rfl,by simp⟩
 |op::rest,i,s,z,k,o,h,hgood,hg,hb,hops,hgs,hds=>by
  have G:ops[i]?=some op:=by simpa using (hops 0 (by simp)).symm
  simp only[AE]at h;cases r:I1 X N F call ops op i s with
  |bad f j=>rw[r]at h;exact absurd h.symm (hgood f j)
  |ok L t=>
   rw[r]at h;simp only at h;obtain⟨R,Z,one,m1,m2⟩:=Mm K c G (hgs op (by simp)) (hds op (by simp)) hg hb r;have k1:oW s L:=⟨one.nx,one.ge,one.b0,one.P8⟩;obtain⟨u,w,H⟩:∃u,AE X N F call ops b rest (i+1) L u k=o/\(b=true->u=z++[t]):=by
    cases b with
    |true=>exact⟨_,h,λ_=>rfl⟩
    |false=>exact⟨_,h,λh=>by cases h⟩
   obtain⟨p,q,e,q1,q2,q3,C,q5,q6⟩:=FB K c w hgood one.ge (by rw[one.b0];exact Jn hb one.nx) (λj hj=>by have:=hops (j+1) (by simpa using hj);simpa[Kt,JS 1 j]using this) (λJ y=>hgs J (by simp[y])) (λJ y=>hds J (by simp[y]));refine⟨⟨R,Z⟩::p,q,e,by simp[q1],q2,λB=>?_,k1.trans C,λM σ A=>?_,λE M σ O A m x D=>?_⟩
   . obtain⟨mk,e1,e2⟩:=q3 B;refine⟨t::mk,?_,.cons m1 m2 e2⟩;rw[e1,H B];simp
   . rw[q5 M σ A,one.mx M σ (Jn C.nx A),Xq,aM]
   . cases m with
     |zero=>simp at D;subst D;exact one.st E M σ O (Jn C.nx A)
     |succ m=>
      simp at D;have:=q6 E M σ O A m x D;rw[one.mx M σ (Jn C.nx A)]at this;simp only[Qu,Xq,aM];rw[show i+(m+1)=i+1+m from by omega];exact this
def Out.ak:Out->Option (Exit×cg)
 |.n s=>some (.normal,s)
 |.x i s=>some (.exit i,s)
 |.r s=>some (.ret,s)
 |.bad _ _=>none
def Ab(X:DX)(N:Nat)(c:Code)(s:cg)(o:Out):Prop:=∀e b,o.ak=some (e,b)->GE s.nx s.en->s.b0<=s.nx->oW s b/\
 ∀(E:Env) M σ,E.N=N->b.nx<=M->∀(Q:Exit->Act->World->Prop)(a:Act)(w:World),(∀d h,dL E (mix M b σ) h d->Q e d h)->dL E (mix M s σ) w a->c.wp X.P Q a w
theorem Bp{s:cg}{c:Operand}{b:Bool}{E:Env}{M:Nat}{σ:St}{w:World}{a:Act}(h:Cc s c=some b)(i:dL E (mix M s σ) w a):a.eval c=.bool b:=by
 unfold Cc at h;obtain⟨ro,own,e⟩:=i;split at h
 . rename_i t;split at h
   . rename_i d;simp at h;subst h;exact nX (e.tm t _ d)
   . rename_i d;simp at h;subst h;exact qD (e.tm t _ d)
   . cases h
 . rename_i j;cases j<;>simp at h<;>subst h<;>rfl
 . cases h
theorem region_ok(hX:An X)(u:nE X call)(hm:X.P.follows .mixedOrders=true){D:Nat}{ops:Array Oper}{c:Bool}{s:cg}{o:Out}(y:Code->cg->Out)(h:sK X N F call y (.region D ops c) s=o):Ab X N (.region D ops c) s o:=by
 intro e s1 k hg hb;unfold sK at h;split at h
 case h_2=>subst h;simp[Out.ak]at k
 rename_i z;simp only[FL,Js,J2]at z;have p:∀f i,o≠ .bad f i:=λf i e=>by rw[e]at k;simp[Out.ak]at k
 obtain⟨A,s2,G,q1,B,q3,q4,q5,q6⟩:=FB hX u h p hg hb (λj J=>by simp) (λo K t=>by
  have:=(z o K).2;split
  . rename_i j b L;intro ht;simp only[L,ht]at this;simpa[Z1]using this
  . trivial) (λo K d O=>by
  have:=(z o K).1;rw[O]at this;simpa[Z1]using this)
 have fin:o=.n s2/\(c=true->Nr ops G=true):=by
  cases c with
  |false=>exact⟨B.symm,λh=>by cases h⟩
  |true=>
   simp only at B;cases C:Nr ops G with
   |true=>rw[C]at B;exact⟨B.symm,λ_=>rfl⟩
   |false=>rw[C]at B;exact absurd B.symm (p _ _)
 obtain⟨rfl,H⟩:=fin;simp[Out.ak]at k;obtain⟨rfl,rfl⟩:=k;refine⟨q4,λE M σ hN hM Q a w hQ q=>?_⟩;have R:=q6 E M σ hN hM;simp only[Jg]at R;have r:∀a w,dL E ((mix M s σ).apply (A.flatMap (·.ws))) w a->Q .normal a w:=λa w hs=>hQ a w (by rw[q5 M σ hM];exact hs)
 cases c with
 |false=>
  refine wp_region ?_;have:=vC (P:=X.P) (Q:=Q) (ops:=ops) A 0 (mix M s σ) (λm x hx=>by simpa using R m x hx) r a w q;rw[q1,Array.length_toList,<-List.range_eq_range']at this;exact this
 |true=>
  obtain⟨mk,e1,e2⟩:=q3 rfl;have C:=H rfl;rw[e1]at C;simp only[Jj]at C;have O:=anyD_ok e2 C;refine wp_region_any hm (BH (st:=A) (s:=mix M s σ) (by rw[q1];simp) R O r _ _ (by simp) (by simp[mq]) (λj o K J=>?_) a _ ?_)
  . simp[Xs]at J;split at J<;>cases J
  . have:wG A 0 (λm=>(Array.replicate ops.size false).getD m false) (mix M s σ)=mix M s σ:=by
     rw[<-lN A 0 (mix M s σ)]
     congr 1
     . funext m;simp[Xs];split<;>rfl
     . exact lN A 0 (mix M s σ)
    rw[this];obtain⟨ro,own,Z⟩:=q;exact⟨ro,own,Z.world rfl rfl rfl rfl⟩
end
end Go.Sx
namespace Go.Sx
open Go Go.RowKit
variable [bW]
section
variable {X : DX}
theorem oW.Rj{s b:cg}(h:oW s b)(c:s.b0<=s.nx):b.b0<=b.nx:=by rw[h.b0];exact Jn c h.nx
theorem Vo(hX:An X)(hm:X.P.follows .mixedOrders=true){N F:Nat}{z:Nat->Func->List SV->cg->rV}(R:nE X z){k:Code->cg->Out}
 (Z:∀c s o,sK X N F z k (.loop c) s=o->(∀s o,sK X N F z k c s=o->Ab X N c s o)->Ab X N (.loop c) s o):
 ∀(c:Code)(s:cg)(o:Out),sK X N F z k c s=o->Ab X N c s o:=by
 intro c
 induction c with
 |skip=>
  intro s o h e D d u B;simp only[sK]at h;subst h;simp[Out.ak]at d;obtain⟨rfl,rfl⟩:=d;exact⟨.refl u,λE M σ p q Q a w m j=>wp_skip (m a w j)⟩
 |label l=>
  intro s o h e D d u B;simp only[sK]at h;subst h;simp[Out.ak]at d;obtain⟨rfl,rfl⟩:=d;exact⟨.refl u,λE M σ p q Q a w m j=>wp_label (m a w j)⟩
 |seq x y H ac=>
  intro s o h e D d u B;simp only[sK]at h;cases G:sK X N F z k x s with
  |n O=>
   rw[G]at h;simp only at h;obtain⟨A,C⟩:=H s _ G .normal O rfl u B;obtain⟨k2,r2⟩:=ac O _ h e D d A.ge (A.Rj B);exact⟨A.trans k2,λE M σ p q Q a w m j=>wp_seq (C E M σ p (Jn k2.nx q) (Exit.then (y.wp X.P Q) Q) a w (λJ K L=>r2 E M σ p q Q J K m L) j)⟩
  |x i O=>
   rw[G]at h;simp only at h;subst h;obtain⟨A,C⟩:=H s _ G e D d u B;simp[Out.ak]at d;obtain⟨rfl,rfl⟩:=d;exact⟨A,λE M σ p q Q a w m j=>wp_seq (C E M σ p q (Exit.then (y.wp X.P Q) Q) a w m j)⟩
  |r O=>
   rw[G]at h;simp only at h;subst h;obtain⟨A,C⟩:=H s _ G e D d u B;simp[Out.ak]at d;obtain⟨rfl,rfl⟩:=d;exact⟨A,λE M σ p q Q a w m j=>wp_seq (C E M σ p q (Exit.then (y.wp X.P Q) Q) a w m j)⟩
  |bad f i=>
   rw[G]at h;simp only at h;subst h;simp[Out.ak]at d
 |cond c x y H ac=>
  intro s o h e D d u B;simp only[sK]at h;cases hc:Cc s c with
  |none=>rw[hc]at h;simp only at h;subst h;simp[Out.ak]at d
  |some b=>
   rw[hc]at h;cases b with
   |true=>
    simp only at h;obtain⟨A,C⟩:=H s _ h e D d u B;exact⟨A,λE M σ p q Q a w m j=>wp_cond_true (Bp hc j) (C E M σ p q Q a w m j)⟩
   |false=>
    simp only at h;obtain⟨A,C⟩:=ac s _ h e D d u B;exact⟨A,λE M σ p q Q a w m j=>wp_cond_false (Bp hc j) (C E M σ p q Q a w m j)⟩
 |block id x ih=>
  intro s o h e D d u B;simp only[sK]at h;cases G:sK X N F z k x s with
  |n O=>
   rw[G]at h;simp only at h;subst h;obtain⟨A,C⟩:=ih s _ G e D d u B;simp[Out.ak]at d;obtain⟨rfl,rfl⟩:=d;exact⟨A,λE M σ p q Q a w m j=>wp_block (C E M σ p q (Exit.inBlock id Q) a w (λJ K L=>m J K L) j)⟩
  |r O=>
   rw[G]at h;simp only at h;subst h;obtain⟨A,C⟩:=ih s _ G e D d u B;simp[Out.ak]at d;obtain⟨rfl,rfl⟩:=d;exact⟨A,λE M σ p q Q a w m j=>wp_block (C E M σ p q (Exit.inBlock id Q) a w (λJ K L=>m J K L) j)⟩
  |bad f i=>
   rw[G]at h;simp only at h;subst h;simp[Out.ak]at d
  |x i O=>
   rw[G]at h;simp only at h;obtain⟨A,C⟩:=ih s _ G (.exit i) O rfl u B;cases he:Nat.beq i id with
   |true=>
    have he:=Jd he;subst he;simp only[Yz]at h;subst h;simp[Out.ak]at d;obtain⟨rfl,rfl⟩:=d;refine⟨A,λE M σ p q Q a w m j=>wp_block (C E M σ p q (Exit.inBlock i Q) a w (λJ K L=>?_) j)⟩;simp only[Exit.inBlock,JE];exact m J K L
   |false=>
    rw[he]at h;simp only at h;subst h;simp[Out.ak]at d;obtain⟨rfl,rfl⟩:=d;refine⟨A,λE M σ p q Q a w m j=>wp_block (C E M σ p q (Exit.inBlock id Q) a w (λJ K L=>?_) j)⟩;simp only[Exit.inBlock];rw[JA (Nat.ne_of_beq_eq_false he)];exact m J K L
 |exit id=>
  intro s o h e D d u B;simp only[sK]at h;subst h;simp[Out.ak]at d;obtain⟨rfl,rfl⟩:=d;exact⟨.refl u,λE M σ p q Q a w m j=>wp_exit (m a w j)⟩
 |ret=>
  intro s o h e D d u B;simp only[sK]at h;subst h;simp[Out.ak]at d;obtain⟨rfl,rfl⟩:=d;exact⟨.refl u,λE M σ p q Q a w m j=>wp_ret (m a w j)⟩
 |scope x ih=>
  intro s o h e D d u B;simp only[sK]at h;obtain⟨A,C⟩:=ih s _ h e D d u B;refine⟨A,λE M σ p q Q a w m j=>wp_scope_straight (C E M σ p q (Exit.noGoto Q) a w (λJ K L=>?_) j)⟩;have:=m J K L;have he:(∃s,o=.n s/\e=.normal)\/(∃i s,o=.x i s/\e=.exit i)\/(∃s,o=.r s/\e=.ret):=by
   cases o with
   |n s=>simp[Out.ak]at d;exact .inl ⟨_,rfl,d.1.symm⟩
   |x i s=>simp[Out.ak]at d;exact .inr (.inl ⟨_,_,rfl,d.1.symm⟩)
   |r s=>simp[Out.ak]at d;exact .inr (.inr ⟨_,rfl,d.1.symm⟩)
   |bad f i=>simp[Out.ak]at d
  rcases he with⟨_,_,rfl⟩|⟨i,_,_,rfl⟩|⟨_,_,rfl⟩<;>exact this
 |loop x ih=>
  intro s o h;exact Z x s o h ih
 |region ad ops draw=>
  intro s o h;exact region_ok hX R hm k h
 |_=>
  intro s o h e D d u B;simp only[sK]at h;subst h;simp[Out.ak]at d
def Ry(X:DX)(n N F:Nat)(c:Code)(s:cg):Out:=sK X N F (oK X (ev X n)) (ev X n N F) c s
theorem wX(X:DX)(n N F:Nat)(c:Code)(s:cg):ev X (n+1) N F c s=Ry X n N F c s:=rfl
theorem QG{N F:Nat}{c:Code}:∀(n:Nat),(∀k,k<=n->∀s o,Ry X k N F c s=o->Ab X N c s o)->∀s o,Ry X n N F (.loop c) s=o->Ab X N (.loop c) s o:=by
 intro n b s o h e A d q p;have keeps:∀k,k<=n->∀s,Ry X k N F (.loop c) s=o->GE s.nx s.en->s.b0<=s.nx->oW s A:=by
  intro k
  induction k with
  |zero=>
   intro y s h q p;simp only[Ry,sK]at h;cases j:sK X N F (oK X (ev X 0)) (ev X 0 N F) c s with
   |n u=>rw[j]at h;simp only[ev]at h;subst h;simp[Out.ak]at d
   |x i u=>rw[j]at h;simp only at h;subst h;exact(b 0 y s _ j e A d q p).1
   |r u=>rw[j]at h;simp only at h;subst h;exact(b 0 y s _ j e A d q p).1
   |bad f i=>rw[j]at h;simp only at h;subst h;simp[Out.ak]at d
  |succ k H=>
   intro y s h q p;simp only[Ry,sK]at h;cases j:sK X N F (oK X (ev X (k+1))) (ev X (k+1) N F) c s with
   |n u=>
    rw[j]at h;simp only[wX]at h;obtain⟨z,_⟩:=b (k+1) y s _ j .normal u rfl q p;exact z.trans (H (by omega) u h z.ge (z.Rj p))
   |x i u=>rw[j]at h;simp only at h;subst h;exact(b (k+1) y s _ j e A d q p).1
   |r u=>rw[j]at h;simp only at h;subst h;exact(b (k+1) y s _ j e A d q p).1
   |bad f i=>rw[j]at h;simp only at h;subst h;simp[Out.ak]at d
 refine⟨keeps n (J1 _) s h q p,λE M σ C D Q a w G m=>?_⟩;refine wp_loop_ghost (λk a w=>k<=n/\∃s,Ry X k N F (.loop c) s=o/\GE s.nx s.en/\s.b0<=s.nx/\dL E (mix M s σ) w a) n ⟨J1 _,s,h,q,p,m⟩ ?_;rintro k a w ⟨y,s,h,q,p,m⟩;have L:=h;simp only[Ry,sK]at h;cases j:sK X N F (oK X (ev X k)) (ev X k N F) c s with
 |n u=>
  rw[j]at h;simp only at h;obtain⟨z,B⟩:=b k y s _ j .normal u rfl q p;cases k with
  |zero=>simp only[ev]at h;subst h;simp[Out.ak]at d
  |succ k=>
   simp only[wX]at h;have J:=keeps k (by omega) u h z.ge (z.Rj p);exact B E M σ C (Jn J.nx D) _ a w (λO R K=>⟨k,by omega,by omega,u,h,z.ge,z.Rj p,K⟩) m
 |x i u=>
  rw[j]at h;simp only at h;subst h;obtain⟨z,B⟩:=b k y s _ j e A d q p;simp[Out.ak]at d;obtain⟨rfl,rfl⟩:=d;exact B E M σ C D _ a w G m
 |r u=>
  rw[j]at h;simp only at h;subst h;obtain⟨z,B⟩:=b k y s _ j e A d q p;simp[Out.ak]at d;obtain⟨rfl,rfl⟩:=d;exact B E M σ C D _ a w G m
 |bad f i=>rw[j]at h;simp only at h;subst h;simp[Out.ak]at d
theorem E4:∀{l:List SV}{i:Nat}{t:Trie SV}{k:Trie SV->rV}{r:SV}{b:cg},argsT l i t k=.ok r b->∃c,k c=.ok r b/\∀j,c.at j=if j<i then t.at j else if j<i+l.length then l[j-i]? else t.at j
 |[],i,t,k,r,b,h=>⟨t,h,λj=>by
  by_cases q:j<i
  . rw[JB q]
  . rw[JA q,JA (by simpa using q)]⟩
 |x::l,i,t,k,r,b,h=>by
  simp only[argsT,Trie.put_eq]at h;cases d:Trie.ins jX t i x with
  |none=>rw[d]at h;simp[cZ]at h
  |some t1=>
   rw[d]at h;simp only[cZ]at h;obtain⟨c,p,u⟩:=E4 (l:=l) h;have w:=Trie.pY _ d;refine⟨c,p,λj=>?_⟩;rw[u];simp only[w,Nat.succ_eq_add_one,Jc]
   by_cases e:j<i
   . rw[JB (by omega),JA (by omega),JB e]
   . by_cases m:j=i
     . subst m;rw[JB (by omega),JB rfl,JA (by omega),JB (by omega)];simp
     . by_cases o:j<i+(l.length+1)
       . rw[JA (by omega),JB (by omega),JA e,JB o];rw[show j-i=(j-(i+1))+1 from by omega,Yb]
       . rw[JA (by omega),JA (by omega),JA m,JA e,JA o]
theorem EB(hX:An X){n:Nat}(bf:∀N F c s o,ev X n N F c s=o->Ab X N c s o):nE X (oK X (ev X n)):=by
 refine⟨λf fn args s r L hf h hg=>?_⟩;unfold oK at h;split at h
 case h_2=>cases h
 rename_i aw;have bL:=Qk aw;obtain⟨tm,h,bh⟩:=E4 h;obtain⟨ca,O,D,b0,wr⟩:=s;simp only at h hg;obtain⟨e1,e2,e3⟩:=hX.I f fn hf;have ax:∃e p,(ev X n fn.ntmps f (mB fn) ⟨tm,O,D,D,[]⟩).ak=some (e,p)/\(e=.normal\/e=.ret)/\L=p/\∃R,(oa X.P fn.results.toList λH=>.done [(.tm 0,.v (oneOf H))]).lh p []=some (R,[(.tm 0,.v r)])/\nK p.nx R=true:=by
  unfold xF at h;simp only at h;have go:∀{p:cg},(match (oa X.P fn.results.toList λH=>.done [(.tm 0,.v (oneOf H))]).lh p []with
  |some (R,[(.tm 0,.v r)])=>(match nK p.nx R with
   |true=>rV.ok r p
   |false=>.bad f 9004)
  |_=>.bad f 9002)=.ok r L->L=p/\∃R,(oa X.P fn.results.toList λH=>.done [(.tm 0,.v (oneOf H))]).lh p []=some (R,[(.tm 0,.v r)])/\nK p.nx R=true:=by
   intro p h;split at h
   . rename_i R r' hq;split at h
     . rename_i ad;simp only[rV.ok.injEq]at h;obtain⟨rfl,rfl⟩:=h;exact⟨rfl,R,hq,ad⟩
     . cases h
   . cases h
  cases ho:ev X n fn.ntmps f (mB fn) ⟨tm,O,D,D,[]⟩with
  |n p=>rw[ho]at h;obtain⟨q1,q2⟩:=go h;exact⟨.normal,p,rfl,.inl rfl,q1,q2⟩
  |r p=>rw[ho]at h;obtain⟨q1,q2⟩:=go h;exact⟨.ret,p,rfl,.inr rfl,q1,q2⟩
  |x i p=>rw[ho]at h;cases h
  |bad f i=>rw[ho]at h;cases h
 obtain⟨e,p,bi,he,rfl,R,ay,aD⟩:=ax;obtain⟨hk,bb⟩:=bf _ _ _ _ _ rfl e L bi hg (J1 _);refine⟨hk.nx,hk.ge,λid u J=>(hk.P8 id u J).1,λE M σ ro own w a y hM A ac=>?_⟩;have cb:y.size=args.length:=by have:=ac.length;simp at this;omega
 let E':Env:=⟨E.B,E.w0,E.R,fn.ntmps,λo r=>own.le o/\ga ro r,λo o' r r' u J h3=>⟨h3.1.trans u,h3.2.trans J⟩⟩
 let a0:Act:={tmps:=y++Array.replicate (fn.ntmps-y.size) undef,defers:=[]}
 have bp:dL E' (mix M ⟨tm,O,D,D,[]⟩ σ) w a0:=by
  have cc:∀id,mix M ⟨tm,O,D,D,[]⟩ σ (.mt id)=lU M O σ (.mt id):=λid=>rfl
  have bt:∀id q,mix M ⟨tm,O,D,D,[]⟩ σ (.sg id q)=lU M O σ (.sg id q):=λid q=>rfl
  have bd:∀id k,St.az (mix M ⟨tm,O,D,D,[]⟩ σ) id k=St.az (lU M O σ) id k:=λid k=>St.dc λq _=>bt id q
  refine⟨ro,own,{below:=A.below,base:=A.base,defs:=rfl,size:=?_,tm:=?_,cJ:=A.cJ,uU:=A.uU,gK:=λid m G=>by rw[bd];exact A.gK id m G,fr:=λid G=>A.fr id G,mY:=λid m G=>A.mY id m G,inj:=λid z m m' b u J=>A.inj id z m m' b u J,kk:=⟨.refl _,.refl _⟩,mp:=⟨λid m n e f u=>A.mp.at_ id m n e f u,λid z m m' b n e f n' e' f' u=>A.mp.inj id z m m' b n e f n' e' f' u⟩}⟩
  . simp[a0,E'];omega
  . intro t sv K;simp only[mix,cg.get,bh,Item.v.injEq]at K;rw[JA (by omega),Trie.YT]at K
    by_cases u:t<args.length
    . rw[JB (by omega)]at K;simp only[Xf,J4 u,K5]at K;subst K;obtain⟨v,hv,hr⟩:=ac.at t _ (J4 u);have J:t<y.size:=by omega
      have:a0.tmps.getD t undef=v:=by
       simp only[Xp]at hv;simp[a0,Y3,J];simpa[Xr J]using hv
      rw[this];exact hr
    . rw[JA (by omega)]at K;simp only[Option.getD_none]at K;subst K;have:a0.tmps.getD t undef=undef:=by
       have h3: ¬t<y.size:=by omega
       simp only[a0,Jf,Y3,h3,JF,Xs];split<;>rfl
      rw[this];exact .df _ _ _ rfl (by simp)
 have done:∀a' Z,dL E' (mix M L σ) Z a'->a'.defers=[]/\∃v,(results fn a'.tmps).run X.P Z=.ok v Z/\∃v',Ending.returned v=.returned v'/\∃C j,own.le j/\ga ro C/\bA E C j (lU M L.en σ) Z a/\Rel C j r v':=by
  intro a' Z be;obtain⟨C,j,d⟩:=be;obtain⟨u,J,_⟩:=Tx.ki ay;have bv:L.nx<=M:=hM;have ad:(oa X.P fn.results.toList λH=>Tx.done [(.tm 0,.v (oneOf H))]).ok (mix M L σ) [(.tm 0,.v r)]:=by
   exact Tx.local _ (λl hl=>by rw[CO (kQ bv (mg aD l (J l hl)))]) _ u
  obtain⟨H,vs,q1,q2,bz⟩:=ra d ad;have hx:oneOf H=r:=by
   have:[(Loc.tm 0,Item.v (oneOf H))]=[(Loc.tm 0,Item.v r)]:=bz;simpa using this
  obtain⟨al,aq⟩:=d.kk;have bF:bA E C j (lU M L.en σ) Z a:={below:=d.below,base:=d.base,defs:=A.defs,size:=A.size,tm:=λt sv K=>(A.tm t sv K).mono aq al,cJ:=d.cJ,uU:=d.uU,gK:=λid m G=>d.gK id m G,fr:=λid G=>d.fr id G,mY:=λid m G=>d.mY id m G,inj:=λid z m m' b e1 e2=>d.inj id z m m' b e1 e2,kk:=E.mono _ _ _ _ al aq A.kk,mp:=⟨λid m n e f u=>d.mp.at_ id m n e f u,λid z m m' b n e f n' e' f' u=>d.mp.inj id z m m' b n e f n' e' f' u⟩}
  refine⟨d.defs,_,lX q1,_,rfl,C,j,al,aq,bF,?_⟩;rw[<-hx];exact q2.one
 refine calls_of_wp e1 e2 ?_;refine bb E' M σ rfl hM _ a0 w (λa' Z h'=>?_) bp;rcases he with rfl|rfl
 . exact done a' Z h'
 . exact done a' Z h'
theorem V2(p:An X)(w:X.P.follows .mixedOrders=true):∀(n:Nat) N F c s o,Ry X n N F c s=o->Ab X N c s o:=by
 intro n
 induction n using Nat.strongRecOn with
 |_ n q=>
  intro N F c s o h;have d:∀N F c s o,ev X n N F c s=o->Ab X N c s o:=by
   intro N F c s o h;cases n with
   |zero=>simp only[ev]at h;subst h;intro e z i;simp[Out.ak]at i
   |succ k=>rw[wX]at h;exact q k (Nat.lt_succ_self _) N F c s o h
  refine Vo p w (EB p d) (λc s o h b=>?_) c s o h;refine QG n (λk x r u j=>?_) s o h;rcases Nat.lt_or_eq_of_le x with m|y
  . exact q k m N F c r u j
  . rw[y]at j;exact b r u j
theorem ZR(d:An X)(i:X.P.follows .mixedOrders=true)(n:Nat):∀N F c s o,ev X n N F c s=o->Ab X N c s o:=by
 intro N F c s o h;cases n with
 |zero=>simp only[ev]at h;subst h;intro e j b;simp[Out.ak]at b
 |succ k=>rw[wX]at h;exact V2 d i k N F c s o h
theorem HI(b:An X)(c:X.P.follows .mixedOrders=true)(n:Nat):nE X (oK X (ev X n)):=EB b (ZR b c n)
end
end Go.Sx
namespace Go.Sx
open Go Go.RowKit
variable [bW]
def Gb(R:SV->SV->Bool):List SV->List SV->Bool
 |[],[]=>true
 |x::r,y::r'=>match R x y with
  |true=>Gb R r r'
  |false=>false
 |_,_=>false
def XM(R:SV->SV->Bool)(f g:Nat->List SV):Nat->Bool
 |0=>true
 |n+1=>match Gb R (f n) (g n)with
  |true=>XM R f g n
  |false=>false
def P9(R:SV->SV->Bool):List ar->List ar->Bool
 |[],[]=>true
 |.s x::r,.s y::r'=>match R x y with
  |true=>P9 R r r'
  |false=>false
 |.a n es f::r,.a b es' g::r'=>match Nat.beq n b&&Nat.beq es es'&&XM R f g n with
  |true=>P9 R r r'
  |false=>false
 |_,_=>false
def OB:Nat->SV->SV->Bool
 |0,_,_=>false
 |d+1,x,y=>match x,y with
  |.int k a,.int c b=>k==c&&a==b
  |.tt,.tt=>true
  |.ff,.ff=>true
  |.tt,.bool b=>b
  |.ff,.bool b=> !b
  |.str a,.str b=>a==b
  |.aq,.aq=>true
  |.emp,.emp=>true
  |.km,.km=>true
  |.Gu,.Gu=>true
  |.pn,.pn=>true
  |.agg l,.agg h=>P9 (OB d) l h
  |.df l,.df h=>Gb (OB d) l h
  |.sy k e q r,.sy c u m o=>k==c&&XE.beq e u&&decide (m<=q)&&decide (r<=o)
  |.tg i,.tg j=>Nat.beq i j
  |.bF es n f,.bF p w g=>Nat.beq es p&&Nat.beq n w&&XM (OB d) f g n
  |_,_=>false
section
variable {R : SV -> SV -> Bool}
theorem xG:∀{l c:List SV},Gb R l c=true->c.length=l.length/\∀(i:Nat)(y:SV),c[i]?=some y->∃x,l[i]?=some x/\R x y=true
 |[],[],_=>⟨rfl,by simp⟩
 |x::r,y::r',h=>by
  simp only[Gb]at h;split at h
  case h_2=>cases h
  rename_i d;obtain⟨e,j⟩:=xG h;refine⟨by simp[e],λi z b=>?_⟩;cases i with
  |zero=>simp at b;subst b;exact⟨x,rfl,d⟩
  |succ i=>simp at b;simpa using j i z b
 |[],_::_,h=>by simp[Gb]at h
 |_::_,[],h=>by simp[Gb]at h
theorem C0{f g:Nat->List SV}:∀{n:Nat},XM R f g n=true->∀i,i<n->Gb R (f i) (g i)=true
 |n+1,h,i,c=>by
  simp only[XM]at h;split at h
  case h_2=>cases h
  rename_i b
  by_cases e:i=n
  . subst e;exact b
  . exact C0 h i (by omega)
theorem zu:∀{l e:List ar},P9 R l e=true->aa e=aa l/\∀(k:Nat)(y:SV),flat e k=some y->∃x,flat l k=some x/\R x y=true
 |[],[],_=>⟨rfl,by simp[flat]⟩
 |.s x::r,.s y::r',h=>by
  simp only[P9]at h;split at h
  case h_2=>cases h
  rename_i d;obtain⟨i,j⟩:=zu h;refine⟨by simp[aa,ar.size,i],λk z b=>?_⟩;cases k with
  |zero=>rw[cC]at b⊢;simp at b;subst b;exact⟨x,rfl,d⟩
  |succ k=>rw[cB]at b⊢;exact j k z b
 |.a n es f::r,.a n' es' g::r',h=>by
  simp only[P9]at h;split at h
  case h_2=>cases h
  rename_i d;simp only[J2]at d;obtain⟨⟨m,o⟩,q⟩:=d;have m:=Jd m;have o:=Jd o;subst m;subst o;obtain⟨i,j⟩:=zu h;refine⟨by simp[aa,ar.size,i],λk z b=>?_⟩
  by_cases c:k<n*es
  . rw[cy c]at b⊢;have p:0<es:=by
     rcases Jw es with d|d
     . subst d;simp at c
     . exact d
    exact(xG (C0 q (k/es) (by rw[K9 p];exact c))).2 _ z b
  . rw[gZ c]at b⊢;exact j _ z b
 |[],_::_,h=>by simp[P9]at h
 |_::_,[],h=>by simp[P9]at h
 |.s _::_,.a _ _ _::_,h=>by simp[P9]at h
 |.a _ _ _::_,.s _::_,h=>by simp[P9]at h
end
theorem zy:∀(d:Nat){x y:SV},OB d x y=true->oZ x y
 |0,x,y,h=>by simp[OB]at h
 |d+1,x,y,h=>by
  have D:=λ{x y:SV}=>zy d (x:=x) (y:=y)
  intro ro o v c;simp only[OB]at h;split at h
  . rename_i k a M b;simp only[J2,JN]at h;obtain⟨rfl,rfl⟩:=h;exact c
  . exact c
  . exact c
  . subst h;cases c;exact .bool _ _
  . simp only[Yx]at h;subst h;cases c;exact .bool _ _
  . rename_i a b;simp only[JN]at h;subst h;exact c
  . exact c
  . exact c
  . exact c
  . exact c
  . exact c
  . rename_i l N;obtain⟨cs,m,E,q⟩:=cU c;obtain⟨F,r⟩:=zu h;rw[m];refine .agg _ _ _ (by rw[F];exact E) λk z w=>?_
    obtain⟨u,hu,B⟩:=r k z w;exact D B _ _ _ (q k u hu)
  . rename_i l N;obtain⟨K,m,E,q⟩:=jt c;obtain⟨F,r⟩:=xG h;rw[m];refine .df _ _ _ (by rw[F];exact E) λi z w=>?_
    obtain⟨u,hu,B⟩:=r i z w;exact D B _ _ _ (q i u hu)
  . rename_i k e lo p M e' O R;simp only[J2,JN,JG]at h;obtain⟨⟨⟨rfl,r⟩,h3⟩,h4⟩:=h;have:=XE.fx r;subst this;cases c;exact .sy _ _ _ _ _ _ ‹_› (by omega) (by omega)
  . rename_i i j;have:=Jd h;subst this;exact c
  . rename_i es n f X n' g;simp only[J2]at h;obtain⟨⟨G,H⟩,L⟩:=h;have G:=Jd G;have H:=Jd H;subst G;subst H;rcases dE c with⟨J,A,cap,m⟩|⟨b,k0,cap,K,m,C,J,Z,q⟩
    . rw[m];exact .fe _ _ _ _ _ _ J
    . rw[m];refine .bF _ _ _ _ _ _ _ K C (λi p=>by rw[(xG (C0 L i p)).1];exact J i p) Z λi j z p w=>?_
      obtain⟨u,hu,B⟩:=(xG (C0 L i p)).2 j z w;exact D B _ _ _ (q i j u p hu)
  . cases h
def nH:Nat:=14
def iZ(b:List SV)(c:SV)(args:List SV):Option SV:=match Gb (OB nH) args b with
 |true=>some c
 |false=>none
def partsOf:SV->List SV
 |.df l=>l
 |x=>[x]
def IY(r:SV)(l:List SV):SV:=match r with
 |.df _=>.df l
 |_=>l.headD .any
def OK(c:rV)(b:SV):Bool:=match c with
 |.ok r s=>match (cn (partsOf r) λd h=>.done [(.tm 0,.v (.df d))]).lh ⟨.e,s.en,s.nx,0,[]⟩ []with
  |some (R,[(.tm 0,.v (.df d))])=>match nK s.nx R with
   |true=>OB nH (IY r d) b
   |false=>false
  |_=>false
 |.bad _ _=>false
def yh:cg:=⟨.e,.e,0,0,[]⟩
def cF(X:DX)(c f:Nat)(fn:Func)(b:List SV)(d:SV):Bool:=OK (oK X (ev X c) f fn b yh) d
theorem aQ.weak{e:RO}{c:Own}:∀{l i:List SV}{d:List Value},Gb (OB nH) l i=true->aQ e c l d->aQ e c i d
 |[],[],d,_,h=>h
 |x::r,y::r',v::vr,b,h=>by
  simp only[Gb]at b;split at b
  case h_2=>cases b
  rename_i j;exact⟨zy nH j _ _ _ h.1,aQ.weak b h.2⟩
 |[],_::_,_,b,_=>by simp[Gb]at b
 |_::_,[],_,b,_=>by simp[Gb]at b
 |_::_,_::_,[],_,h=>h.elim
theorem RC{X:DX}(hX:An X)(j:X.P.follows .mixedOrders=true){B f:Nat}{fn:Func}(hf:X.I f=some fn){c:List SV}{C:SV}(h:cF X B f fn c C=true):cS X.P f λargs=>(iZ c C args).map λr=>(True,r):=by
 obtain⟨e1,e2,e3⟩:=hX.I f fn hf;refine⟨⟨fn,e1,by simp[e2],e3⟩,λargs p r J hp R w N hR O=>?_⟩;unfold iZ at J;cases hq:Gb (OB nH) args c with
 |false=>rw[hq]at J;simp at J
 |true=>
  rw[hq]at J;simp only[K4,J3,Q4]at J;obtain⟨rfl,rfl⟩:=J;have F:=aQ.weak hq O;unfold cF OK at h;split at h
  case h_2=>cases h
  rename_i r D Z;split at h
  case h_2=>cases h
  rename_i R2 r' ac;split at h
  case h_2=>cases h
  rename_i ad;obtain⟨c1,c2,c3,c4⟩:=(HI hX j B).ok f fn c yh r D hf Z (λid e he=>by simp[yh,Trie.YT]at he)
  let E:Env:=⟨w.heap.size,w,R,0,λ_ _=>True,λ_ _ _ _ _ _ _=>trivial⟩
  let a0:Act:={tmps:= #[],defers:=[]}
  let σ:St:=λ
   |.tm _=>.v (.df [])
   |.mt _=>.m none
   |.sg _ _=>.s (.s .any)
  have ay:bA E R Own.empty (lU D.nx yh.en σ) w a0:=by
   have o:∀id,lU D.nx yh.en σ (.mt id)=.m none:=λid=>by
    simp only[lU,yh,Trie.YT,σ];split<;>rfl
   refine {below:=Below.refl _ _,base:=J1 _,defs:=rfl,size:=rfl,tm:=λt sv ht=>?_,cJ:=hR,uU:=λ_ _ _=>rfl,gK:=λid m j=>?_,fr:=λ_ _ _=>rfl,mY:=λ_ _ _ _ _=>rfl,inj:=λid az m m' b j=>?_,kk:=trivial,mp:=⟨λid m _ _ _ j=>?_,λid az m m' b _ _ _ _ _ _ j=>?_⟩}
   . simp only[lU,σ,Item.v.injEq]at ht;subst ht;exact .df _ _ #[] rfl (by simp)
   . rw[o]at j;cases j
   . rw[o]at j;cases j
   . rw[o]at j;cases j
   . rw[o]at j;cases j
  refine(c4 E D.nx σ R Own.empty w a0 N (J1 _) ay F).mono ?_;rintro e w' ⟨v,rfl,aD,al,k1,k2,k3,k4⟩;obtain⟨q1,q2,_⟩:=Tx.ki ac;have bb:(cn (partsOf r) λr' ws=>Tx.done [(.tm 0,.v (.df r'))]).ok (lU D.nx D.en σ) [(.tm 0,.v (.df r'))]:=by
   refine Tx.local _ (λl hl=>?_) _ q1;have y:=mg ad l (q2 l hl);cases l with
   |tm t=>simp only[lU,σ,cg.get,Trie.YT];rfl
   |mt id=>simp only[gF]at y;simp only[lU,cg.get];rw[JB y]
   |sg id q=>simp only[gF]at y;simp only[lU,cg.get];rw[JB y]
  have z:∃K:List Value,aQ aD al (partsOf r) K/\∀d L,aQ d Own.empty L K->L.length=(partsOf r).length->Rel d Own.empty (IY r L) v:=by
   cases r
   case df l=>
    obtain⟨K,hv,hs,hh⟩:=jt k4;refine⟨K.toList,aQ.IW (by simpa[partsOf]using hs) (λi x hx=>by simpa[J0,Jf]using hh i x hx),λd L M bd=>?_⟩;rw[hv];have k:=M.length;refine .df _ _ _ (by simpa using k.symm) λi x hx=>?_
    obtain⟨u,hu,hr⟩:=M.at i x hx;simpa[Jf,show K[i]?=some u from by simpa using hu]using hr
   all_goals
    refine⟨[v],⟨k4,trivial⟩,λd L M bd=>?_⟩
    match L,M with
    |[x],M=>exact M.1
  obtain⟨K,aq,G⟩:=z;obtain⟨A,bf,d,be,aw,H,ax⟩:=iw (s:=lU D.nx D.en σ) ⟨λ_ _=>rfl,λ_=>.inl rfl⟩ k3 aq bb;have hx:A=r':=by
   have:[(Loc.tm 0,Item.v (.df A))]=[(Loc.tm 0,Item.v (.df r'))]:=be;simpa using this
  subst hx;have k:A.length=(partsOf r).length:=by rw[ax.length,aq.length]
  refine⟨v,d,rfl,zy nH h _ _ _ (G d A ax k),k2.trans aw,H.cJ,H.uU,H.below⟩
end Go.Sx
namespace Go.Sx
open Go Go.RowKit
variable [bW]
def eE(R:SV->SV):ar->ar
 |.s v=>.s (R v)
 |.a n es f=>.a n es λi=>(f i).map R
def iF:Nat->SV->SV
 |0,x=>x
 |d+1,x=>match x with
  |.sy k e _ _=>.int k e.den
  |.tg i=>bW.tag i
  |.agg l=>.agg (l.map (eE (iF d)))
  |.df l=>.df (l.map (iF d))
  |.bF es n f=>.bF es n λi=>(f i).map (iF d)
  |x=>x
theorem kg(R:SV->SV):∀l:List ar,aa (l.map (eE R))=aa l
 |[]=>rfl
 |.s v::r=>by simp only[J8,eE,aa,ar.size,kg R r]
 |.a n es f::r=>by simp only[J8,eE,aa,ar.size,kg R r]
theorem oJ(R:SV->SV):∀{l:List ar}{k:Nat}{c:SV},flat (l.map (eE R)) k=some c->∃u,flat l k=some u/\c=R u
 |[],_,_,h=>by cases h
 |.s v::r,k,c,h=>by
  simp only[J8,eE]at h;cases k with
  |zero=>rw[cC]at h;cases h;exact⟨v,by rw[cC],rfl⟩
  |succ k=>rw[cB]at h;rw[cB];exact oJ R h
 |.a n es f::r,k,c,h=>by
  simp only[J8,eE]at h
  by_cases b:k<n*es
  . rw[cy b]at h⊢;rw[J5,Jp]at h;obtain⟨u,d,e⟩:=h;exact⟨u,d,e.symm⟩
  . rw[gZ b]at h⊢;exact oJ R h
theorem xz:∀(d:Nat)(x:SV),oZ x (iF d x)
 |0,x=>oZ.refl x
 |d+1,x=>by
  have w:=xz d;intro ro o v h;cases x
  case sy k e lo c=>cases h;subst_vars;exact .int _ _ _
  case tg i=>cases h;rename_i h;exact h.own (Own.empty_le _)
  case agg l=>
   obtain⟨G,m,y,p⟩:=cU h;rw[m];refine .agg _ _ _ (by rw[kg];exact y) λk B E=>?_
   obtain⟨u,q,rfl⟩:=oJ _ E;exact w u _ _ _ (p k u q)
  case df l=>
   obtain⟨C,m,y,p⟩:=jt h;rw[m];refine .df _ _ _ (by simpa using y) λi B c=>?_
   rw[J5,Jp]at c;obtain⟨u,q,rfl⟩:=c;exact w u _ _ _ (p i u q)
  case bF es n f=>
   rcases dE h with⟨z,A,cap,m⟩|⟨b,H,cap,C,m,r,z,F,p⟩
   . rw[m];exact .fe _ _ _ _ _ _ z
   . rw[m];refine .bF _ _ _ _ _ _ _ C r (λi c=>by rw[Qj];exact z i c) F λi j B c D=>?_
     rw[J5,Jp]at D;obtain⟨u,q,rfl⟩:=D;exact w u _ _ _ (p i j u c q)
  all_goals exact h
theorem aQ.den{c:RO}{b:Own}(d:Nat):∀{l:List SV}{e:List Value},aQ c b l e->aQ c b (l.map (iF d)) e
 |[],[],h=>h
 |x::r,v::vr,h=>⟨xz d x _ _ _ h.1,aQ.den d h.2⟩
 |[],_::_,h=>h.elim
 |_::_,[],h=>h.elim
theorem nu{P:Program}{f:Nat}{c:bB}(y:nh P f c)(d:Nat){b:List SV}{j r:SV}{p:Prop}(h:c (b.map (iF d))=some (p,r))(z:p)(q:od r=true)(A:oZ r j):cS P f λargs=>(iZ b j args).map λr=>(True,r):=by
 refine⟨y.fn,λargs G H i B R w m C o=>?_⟩;unfold iZ at i;cases u:Gb (OB nH) args b with
 |false=>rw[u]at i;simp at i
 |true=>
  rw[u]at i;simp only[K4,J3,Q4]at i;obtain⟨rfl,rfl⟩:=i;have k:=(aQ.weak u o).den d;refine(y.calls _ p r h z R w m C k).mono ?_;rintro e J ⟨v,x,D,E,F⟩;exact⟨v,x,D,A _ _ _ (E.plain q),F⟩
theorem uw{i:Nat}{r:SV}(h:bW.tag i=r)(b:fM r=true):oZ r (.tg i):=λro o v c=>.tg _ _ _ (by rw[h];exact iq c b)
abbrev Pu:=List (List SV×SV)
def zw:Pu->List SV->Option SV
 |[],_=>none
 |p::r,args=>match iZ p.1 p.2 args with
  |some x=>some x
  |none=>zw r args
def orD(l:Pu)(d:Option (List SV->Option SV)):Option (List SV->Option SV):=match l with
 |[]=>d
 |_::_=>match d with
  |none=>some (zw l)
  |some g=>some λargs=>match zw l args with
   |some x=>some x
   |none=>g args
def jq(f:Nat):List (Nat×List SV×SV)->Pu
 |[]=>[]
 |(g,a,r)::l=>match Nat.beq g f with
  |true=>(a,r)::jq f l
  |false=>jq f l
def DX.more(X:DX)(l:List (Nat×List SV×SV)):DX:=⟨X.P,X.I,λf=>orD (jq f l) (X.D f),X.H⟩
def Fact(P:Program)(f:Nat)(b:List SV)(c:SV):Prop:=cS P f λargs=>(iZ b c args).map λr=>(True,r)
inductive A8 (P : Program) : List (Nat × List SV × SV) -> Prop
 | nil : A8 P []
 | cons {f a r l} : Fact P f a r -> A8 P l -> A8 P ((f, a, r) :: l)
theorem A8.app{P:Program}:∀{l m:List (Nat×List SV×SV)},A8 P l->A8 P m->A8 P (l++m)
 |[],_,_,h=>h
 |_::_,_,.cons h1 h2,h=>.cons h1 (h2.app h)
theorem FI{P:Program}{f:Nat}{a:List SV}{r:SV}{g:List SV->Option SV}(h:Fact P f a r)(m:cS P f λargs=>(g args).map λr=>(True,r)):
 cS P f λargs=>(match iZ a r args with|some x=>some x|none=>g args).map λr=>(True,r):=by
 refine⟨h.fn,λargs p i d j R w b k c=>?_⟩;cases e:iZ a r args with
 |some x=>
  rw[e]at d;exact h.calls args p i (by rw[e];exact d) j R w b k c
 |none=>
  rw[e]at d;exact m.calls args p i d j R w b k c
theorem Hk{P:Program}{f:Nat}{a:List SV}{r:SV}(h:Fact P f a r):cS P f λargs=>(match iZ a r args with|some x=>some x|none=>none).map λr=>(True,r):=by
 refine⟨h.fn,λargs p i d j R w b k c=>?_⟩;cases e:iZ a r args with
 |some x=>
  rw[e]at d;exact h.calls args p i (by rw[e];exact d) j R w b k c
 |none=>rw[e]at d;cases d
theorem xy{P:Program}(f:Nat):∀{l:List (Nat×List SV×SV)},A8 P l->(∀g:List SV->Option SV,cS P f (λargs=>(g args).map λr=>(True,r))->cS P f λargs=>(match zw (jq f l) args with|some x=>some x|none=>g args).map λr=>(True,r))/\
 (jq f l≠[]->cS P f λargs=>(zw (jq f l) args).map λr=>(True,r))
 |[],_=>⟨λg i=>by simpa[jq,zw]using i,λh=>absurd rfl h⟩
 |(k,a,r)::l,.cons h1 h2=>by
  obtain⟨d,e⟩:=xy f h2;simp only[jq];cases A:Nat.beq k f with
  |false=>exact⟨d,e⟩
  |true=>
   have B:=Jd A;subst B;simp only[zw];refine⟨λg i=>?_,λ_=>?_⟩
   . have:=FI h1 (d g i);refine⟨this.fn,λargs p j m o R w b q c=>this.calls args p j ?_ o R w b q c⟩;rw[<-m];cases iZ a r args<;>rfl
   . cases u:jq k l with
     |nil=>
      have:=Hk h1;refine⟨this.fn,λargs p j m o R w b q c=>this.calls args p j ?_ o R w b q c⟩;rw[<-m];cases iZ a r args<;>rfl
     |cons x y=>
      have z:=e (by rw[u];simp);rw[u]at z;exact FI h1 z
theorem An.more{X:DX}(c:An X){l:List (Nat×List SV×SV)}(h:A8 X.P l):An (X.more l):=by
 refine⟨c.I,λf d b=>?_,c.H⟩
 change orD (jq f l) (X.D f)=some d at b
 obtain⟨e,i⟩:=xy f h;unfold orD at b;split at b
 . exact c.D f d b
 . rename_i x y j;split at b
   . cases b;exact i (by rw[j];simp)
   . rename_i g k;cases b;exact e g (c.D f g k)
theorem au{X:DX}(e:An X)(i:X.P.follows .mixedOrders=true){d f:Nat}{fn:Func}(j:X.I f=some fn){b:List SV}{c:SV}(h:cF X d f fn b c=true):Fact X.P f b c:=RC e i j h
end Go.Sx
namespace Go.Sx
open Go Go.RowKit
def zf:Nat->SV->Prop
 |0,_=>False
 |d+1,x=>match x with
  |.sy _ _ _ _|.tg _|.rA _ _ _ _ _|.fn _ _ _|.Gl _ _ _ _=>False
  |.agg l=>∀k b,flat l k=some b->zf d b
  |.df l=>∀(i:Nat)(b:SV),l[i]?=some b->zf d b
  |.bF _ n f=>∀i,i<n->∀(j:Nat)(b:SV),(f i)[j]?=some b->zf d b
  |_=>True
theorem yG(C c:bW):∀(d:Nat)(x:SV),zf d x->∀(ro:RO)(o:Own)(v:Value), @Rel C ro o x v-> @Rel c ro o x v
 |0,_,h,_,_,_,_=>h.elim
 |d+1,x,h,ro,o,v,H=>by
  have w:=yG C c d;cases H with
  |any=>exact @Rel.any c _ _ _
  |bool=>exact @Rel.bool c _ _ _
  |tt=>exact @Rel.tt c _ _
  |ff=>exact @Rel.ff c _ _
  |int=>exact @Rel.int c _ _ _ _
  |str=>exact @Rel.str c _ _ _
  |aq=>exact @Rel.aq c _ _
  |agg p l L y r=>exact @Rel.agg c _ _ _ _ y λk m D=>w m (h k m D) _ _ _ (r k m D)
  |df p l E y r=>exact @Rel.df c _ _ _ _ y λi m u=>w m (h i m u) _ _ _ (r i m u)
  |ptr p id q b e=>exact @Rel.ptr c _ _ _ _ _ e
  |su p id F q i j b e=>exact @Rel.su c _ _ _ _ _ _ _ _ e
  |sl p id F off len b e z=>exact @Rel.sl c _ _ _ _ _ _ _ e z
  |Es p id F off len e B J=>exact @Rel.Es c _ _ _ _ _ _ e B J
  |fe p es len f a cap e=>exact @Rel.fe c _ _ _ _ _ _ _ e
  |bF p es len f b M cap E z B K r=>exact @Rel.bF c _ _ _ _ _ _ _ _ E z B K λi j m u G=>w m (h i u j m G) _ _ _ (r i j m u G)
  |rA=>exact h.elim
  |fn=>exact h.elim
  |DG p v e=>exact @Rel.DG c _ _ _ e
  |emp p A=>exact @Rel.emp c _ _ _
  |z9 p id b e=>exact @Rel.z9 c _ _ _ _ e
  |km=>exact @Rel.km c _ _
  |Gu=>exact @Rel.Gu c _ _
  |pn=>exact @Rel.pn c _ _
  |sy=>exact h.elim
  |tg=>exact h.elim
def Od(d:Nat):List SV->Prop
 |[]=>True
 |x::r=>zf d x/\Od d r
theorem Bl(b c:bW)(d:Nat){e:RO}{o:Own}:∀{l:List SV}{i:List Value},Od d l-> @aQ b e o l i-> @aQ c e o l i
 |[],[],_,_=>trivial
 |x::r,v::vr,hp,h=>⟨yG b c d x hp.1 _ _ _ h.1,Bl b c d hp.2 h.2⟩
 |[],_::_,_,h=>h.elim
 |_::_,[],_,h=>h.elim
section
variable [bW]
theorem mC(R:SV->SV):∀{l:List ar}{k:Nat}{u:SV},flat l k=some u->flat (l.map (eE R)) k=some (R u)
 |[],_,_,h=>by cases h
 |.s v::r,k,u,h=>by
  simp only[J8,eE];cases k with
  |zero=>rw[cC]at h⊢;cases h;rfl
  |succ k=>rw[cB]at h⊢;exact mC R h
 |.a n es f::r,k,u,h=>by
  simp only[J8,eE]
  by_cases b:k<n*es
  . rw[cy b]at h⊢;rw[J5,h];rfl
  . rw[gZ b]at h⊢;exact mC R h
def Rq:Nat->SV->Prop
 |0,x=>True
 |d+1,x=>match x with
  |.sy _ e c h=>c<=e.den/\e.den<=h
  |.tg _=>False
  |.agg l=>∀k b,flat l k=some b->Rq d b
  |.df l=>∀(i:Nat)(b:SV),l[i]?=some b->Rq d b
  |.bF _ n f=>∀i,i<n->∀(j:Nat)(b:SV),(f i)[j]?=some b->Rq d b
  |_=>True
theorem Fg:∀(d:Nat)(x:SV),Rq d x->oZ (iF d x) x
 |0,x,_=>oZ.refl x
 |d+1,x,q=>by
  have w:=Fg d;intro ro o v h;cases x
  case sy k e lo c=>
   have:v=.int k e.den:=aK h;rw[this];exact .sy _ _ _ _ _ _ rfl q.1 q.2
  case tg i=>exact q.elim
  case agg l=>
   obtain⟨F,p,y,r⟩:=cU h;rw[p];exact .agg _ _ _ (by rw[<-kg (iF d)];exact y) λk m B=>w m (q k m B) _ _ _ (r k _ (mC _ B))
  case df l=>
   obtain⟨C,p,y,r⟩:=jt h;rw[p];exact .df _ _ _ (by simpa using y) λi m c=>w m (q i m c) _ _ _ (r i _ (by rw[J5,c];rfl))
  case bF es n f=>
   rcases dE h with⟨z,A,cap,p⟩|⟨b,G,cap,C,p,u,z,E,r⟩
   . rw[p];exact .fe _ _ _ _ _ _ z
   . rw[p];refine .bF _ _ _ _ _ _ _ C u (λi c=>by have:=z i c;simpa using this) E λi j m c D=>?_
     exact w m (q i c j m D) _ _ _ (r i j _ c (by rw[J5,D];rfl))
  all_goals exact h
def Ls(d:Nat):List SV->Prop
 |[]=>True
 |x::r=>Rq d x/\Ls d r
theorem aQ.und{c:RO}{b:Own}(d:Nat):∀{l:List SV}{e:List Value},Ls d l->aQ c b (l.map (iF d)) e->aQ c b l e
 |[],[],_,h=>h
 |x::r,v::vr,hb,h=>⟨Fg d x hb.1 _ _ _ h.1,aQ.und d hb.2 h.2⟩
 |[],_::_,_,h=>h.elim
 |_::_,[],_,h=>h.elim
end
def Oc[bW](P:Program)(f:Nat)(args:List SV)(h:SV):Prop:=∀(R:RO)(w:World)(c:Array Value),(∀b o v,R b o=some v->eb w b o v)->aQ R Own.empty args c.toList->
 Calls P f c w λe i=>∃v d,e=.returned v/\Rel d Own.empty h v/\ga R d/\(∀b o v,d b o=some v->eb i b o v)/\(∀b o,b<w.heap.size->d b o=R b o)/\Below w.heap.size w i
theorem fact_swap(i p:bW){P:Program}{f:Nat}{b:List SV}{c:SV}(d:Nat)(h: @Fact i P f b c)(x:Gb (OB nH) b b=true){args:List SV}{j:SV}(y:args=b.map (@iF i d))(z:j= @iF i d c)(A: @Ls i d b)(q:Od d args)(r:zf d j): @Oc p P f args j:=by
 intro R w k B m;have u: @aQ i R Own.empty args k.toList:=Bl p i d q m;rw[y]at u;have C:= @aQ.und i R Own.empty d b k.toList A u;have D:= @cS.calls i P f _ h b True c (by unfold iZ;rw[x];rfl) trivial R w k B C;refine D.mono ?_;rintro e J ⟨v,o,E,F,G⟩;have H: @Rel i o Own.empty j v:=by
  rw[z];exact @xz i d c o Own.empty v F
 exact⟨v,o,E,yG i p d j r o Own.empty v H,G⟩
end Go.Sx
namespace Go.Sx
open Go Go.RowKit
def mO(P:SV->Prop):List SV->Prop
 |[]=>True
 |x::r=>P x/\mO P r
def wI(P:SV->Prop)(f:Nat->List SV):Nat->Prop
 |0=>True
 |n+1=>mO P (f n)/\wI P f n
def wK(P:SV->Prop):List ar->Prop
 |[]=>True
 |.s v::r=>P v/\wK P r
 |.a n _ f::r=>wI P f n/\wK P r
theorem mQ{P:SV->Prop}:∀{l:List SV},mO P l->∀{i:Nat}{x:SV},l[i]?=some x->P x
 |[],_,_,_,h=>by simp at h
 |y::r,h,0,x,hx=>by simp at hx;subst hx;exact h.1
 |y::r,h,i+1,x,hx=>by simp at hx;exact mQ h.2 hx
theorem xb{P:SV->Prop}{f:Nat->List SV}:∀{n:Nat},wI P f n->∀{i:Nat},i<n->mO P (f i)
 |n+1,h,i,b=>by
  by_cases e:i=n
  . subst e;exact h.1
  . exact xb h.2 (by omega)
theorem wW[bW]{P:SV->Prop}:∀{l:List ar},wK P l->∀{k:Nat}{x:SV},flat l k=some x->P x
 |[],_,_,_,h=>by cases h
 |.s v::r,h,0,x,b=>by rw[cC]at b;cases b;exact h.1
 |.s v::r,h,k+1,x,b=>by rw[cB]at b;exact wW h.2 b
 |.a n es f::r,h,k,x,b=>by
  by_cases c:k<n*es
  . rw[cy c]at b;have d:0<es:=by
     rcases Jw es with e|e
     . subst e;simp at c
     . exact e
    exact mQ (xb h.1 (by rw[K9 d];exact c)) b
  . rw[gZ c]at b;exact wW h.2 b
def oS:Nat->SV->Prop
 |0,_=>False
 |d+1,x=>match x with
  |.sy _ _ _ _|.tg _|.rA _ _ _ _ _|.fn _ _ _|.Gl _ _ _ _=>False
  |.agg l=>wK (oS d) l
  |.df l=>mO (oS d) l
  |.bF _ n f=>wI (oS d) f n
  |_=>True
theorem oc[bW]:∀{d:Nat}{x:SV},oS d x->zf d x
 |0,_,h=>h
 |d+1,x,h=>by
  cases x
  case agg l=>exact λk c e=>oc (wW h e)
  case df l=>exact λi c b=>oc (mQ h b)
  case bF es n f=>exact λi b j c m=>oc (mQ (xb h b) m)
  all_goals exact h
def G0[bW]:Nat->SV->Prop
 |0,_=>True
 |d+1,x=>match x with
  |.sy _ e b c=>b<=e.den/\e.den<=c
  |.tg _=>False
  |.agg l=>wK (G0 d) l
  |.df l=>mO (G0 d) l
  |.bF _ n f=>wI (G0 d) f n
  |_=>True
theorem vh[bW]:∀{d:Nat}{x:SV},G0 d x->Rq d x
 |0,_,_=>trivial
 |d+1,x,h=>by
  cases x
  case agg l=>exact λk c e=>vh (wW h e)
  case df l=>exact λi c b=>vh (mQ h b)
  case bF es n f=>exact λi b j c m=>vh (mQ (xb h b) m)
  all_goals exact h
end Go.Sx
namespace Go.Sx
open Go Go.RowKit
variable [bW]
def Pb{α:Type}(S:iR α):Prop:=∀a,∃q,S.dec (S.enc a)=some (q,a)/\q
def dF{α:Type}(S:iR α)(b:α->Bool)(c:α->SV)(args:List SV):Option SV:=match S.dec args with
 |some (_,a)=>match Gb (OB nH) args (S.enc a)with
  |true=>match b a with
   |true=>some (c a)
   |false=>none
  |false=>none
 |none=>none
theorem eQ{α:Type}{S:iR α}{h:α->Bool}{d:α->Prop}{c:α->SV}{P:Program}{f:Nat}(x:nh P f (ow S.dec d c))(y:Pb S)(j:∀a,h a=true->d a)(o:∀a,od (c a)=true):cS P f λargs=>(dF S h c args).map λr=>(True,r):=by
 refine⟨x.fn,λargs K L b z R w k A m=>?_⟩;unfold dF at b;split at b
 case h_2=>cases b
 rename_i q a M;split at b
 case h_2=>cases b
 rename_i B;split at b
 case h_2=>cases b
 rename_i C;simp only[K4,J3,Q4]at b;obtain⟨rfl,rfl⟩:=b;obtain⟨D,E,F⟩:=y a;have i:=aQ.weak B m;have p:ow S.dec d c (S.enc a)=some (D/\d a,c a):=by
  unfold ow;rw[kJ,E]
 refine(x.calls _ _ (c a) p ⟨F,j a C⟩ R w k A i).mono ?_;rintro e N ⟨v,u,G,H,J⟩;exact⟨v,u,G,H.plain (o a),J⟩
def Fc{α:Type}(A:Arg α):Prop:=∀a,∃q,A.dec (A.enc a)=some (q,a)/\q
theorem cx{α:Type}{A:Arg α}(h:Fc A):Pb (iR.one A):=λa=>h a
theorem fJ{α:Type}(C:Ou α):Fc (zN C):=λl=>by
 refine⟨HB C l.length λi=>C.enc (l.getD i C.qW),?_,λi _=>⟨by rw[C.self];rfl,C.kW _⟩⟩;show(match Nat.beq C.n C.n with
  |true=>some (HB C l.length (λi=>C.enc (l.getD i C.qW)),ah C l.length λi=>C.enc (l.getD i C.qW))
  |false=>none)=_
 rw[show Nat.beq C.n C.n=true from Yz _,iJ rfl]
theorem cV{α β:Type}{A:Arg α}{S:iR β}(h:Fc A)(k:Pb S):Pb (iR.cons A S):=λa=>by
 obtain⟨q,c,d⟩:=h a.1;obtain⟨r,e,i⟩:=k a.2;refine⟨q/\r,?_,d,i⟩;show(match A.dec (A.enc a.1)with
  |some (p,x)=>(match S.dec (S.enc a.2)with
   |some (q,b)=>some (p/\q,(x,b))
   |none=>none)
  |none=>none)=_
 rw[c,e]
theorem KT(l:List SV):aV (l.map .s)=some l:=by
 induction l with
 |nil=>rfl
 |cons x r b=>simp[aV,b]
theorem i9{α:Type}(C:Ou α):Fc (argA C):=λa=>by
 refine⟨C.ak (C.enc a),?_,C.kW a⟩;show oB (aV ((C.enc a).map .s)) (λc=>oB (C.dec c) λa=>some (C.ak c,a))=_
 rw[KT];show oB (C.dec (C.enc a)) (λb=>some (C.ak (C.enc a),b))=_
 rw[C.self];rfl
theorem B7(b:IntKind):Fc (DN b):=λa=>⟨True,by
 show oB (rI b (.int b a)) (λa=>some (True,a))=_
 rw[xk];rfl,trivial⟩
def Lv(b:Nat):Own:=⟨λid v=>match id,v with
 |0,0=>some (some b)
 |_,_=>none,λ_ _=>0,λ_ q=>q,λ_ _=>1⟩
def Cb(tm b:List SV):bg:=⟨tm,[(⟨0,false,false,none,b.length,0,b.map λ_=>none⟩,b.map .s)]⟩
theorem mid1_segs(tm b:List SV):St.az (Cb tm b).get 0 b.length=b.map .s:=by
 refine List.ext_getElem (by simp[St.az]) λi d c=>?_
 simp only[Qj]at c;simp[St.az,St.uC,bg.get,Cb,c]
theorem HJ(b:List SV):aa (b.map .s)=b.length:=by
 induction b with
 |nil=>rfl
 |cons x r c=>simp only[J8,aa,ar.size,Jc,c];omega
theorem Vz(b:List SV):∀k,flat (b.map .s) k=b[k]?:=by
 induction b with
 |nil=>intro k;rfl
 |cons x r c=>
  intro k;cases k with
  |zero=>simp[flat,ar.size,ar.at]
  |succ k=>simp[flat,ar.size,c]
theorem GG{N:Nat}{w W:World}{i:Array Value}{tm c:List SV}{J:Array Value}{X:TypeId}{r K L:Nat}{C:RO}(M:L<=K\/c.length<=K)(Z:Below w.heap.size w W)(E:w.heap.size<=r)
 (A:∀b o v,C b o=some v->eb W b o v/\w.heap.size<=b/\b≠r) (F:W.heap[r]?=some (.cells J X (K,L))) (hN:i.size=N)
 (O:∀t j,tm[t]?=some j->Rel C (Lv r) j (i.getD t undef)) (u:J.size=c.length) (B:∀k j,c[k]?=some j->Rel C (Lv r) j (J.getD k undef)):
 dL ⟨w.heap.size,w,λ_ _=>none,N,λ_ _=>True,λ_ _ _ _ _ _ _=>trivial⟩ (Cb tm c).get W ⟨i,[]⟩:=by
 have d:∀id m,(Cb tm c).get (.mt id)=.m (some m)->id=0/\m=⟨0,false,false,none,c.length,0,c.map λ_=>none⟩:=by
  intro id m h;cases id with
  |zero=>simp[Cb,bg.get]at h;exact⟨rfl,h.symm⟩
  |succ id=>simp[Cb,bg.get]at h
 refine⟨C,Lv r,{below:=Z,base:=Z.size,defs:=rfl,size:=hN,tm:=?_,cJ:=λb o v h=>(A b o v h).1,uU:=?_,gK:=?_,fr:=?_,mY:=?_,inj:=?_,kk:=trivial,mp:=⟨?_,?_⟩}⟩
 . intro t j z;simp only[bg.get,Cb,Item.v.injEq]at z
   by_cases h:t<tm.length
   . refine O t j ?_;rw[J0,J4 h]at z;rw[J4 h,<-z];rfl
   . rw[J0,J7 (by omega)]at z;simp at z;subst z;exact .any _ _
 . intro b o R;cases h:C b o with
   |none=>rfl
   |some v=>have:=(A b o v h).2.1;simp at R;omega
 . intro id m p;obtain⟨rfl,rfl⟩:=d id m p;show TZ _ _ _ (St.az (Cb tm c).get 0 c.length) _ _ _
   rw[mid1_segs];refine {st:=?_,es:=?_,row:=(λh=>by cases h),plain:=λ_=>⟨rfl,?_⟩,there:=⟨_,rfl⟩,nil:=(λh=>by cases h),live:=?_,dn:=(λ_ _ h=>by cases h)}
   . intro q hq;rw[<-List.map_take,HJ];simp only[Lv,Kj]at hq⊢;omega
   . intro q x hx;rw[J5,Jp]at hx;obtain⟨y,_,rfl⟩:=hx;rfl
   . rw[List.map_map];rfl
   . intro b R _;cases R;refine {low:=E,apart:=λo=>?_,body:=⟨J,X,K,L,F,by rw[HJ];exact M,(λt z=>by cases z),by rw[HJ,u];exact J1 _,λk j D=>B k j (by rw[Vz]at D;exact D),λ_=>by rw[HJ,u],(λh=>by cases h)⟩};cases h:C r o with
     |none=>rfl
     |some v=>exact absurd rfl (A r o v h).2.2
 . intro id h aD;cases id with
   |zero=>simp[Cb,bg.get]at h
   |succ id=>rfl
 . intro id m p aD hv;obtain⟨rfl,rfl⟩:=d id m p;cases aD with
   |zero=>exact absurd hv (Nat.lt_irrefl 0)
   |succ v=>rfl
 . intro id G m m' b p H _ _ _ _;rw[(d id m p).1,(d G m' H).1]
 . intro id m n e f p D;obtain⟨rfl,rfl⟩:=d id m p;cases D
 . intro id G m m' b n e f n' e' f' p H D;obtain⟨rfl,rfl⟩:=d id m p;cases D
theorem RX{N:Nat}{w W:World}{d:Array Value}{tm c:List SV}{q:Array Value}{y:TypeId}{h:Nat}{r:RO}(z:Below w.heap.size w W)(i:w.heap.size<=h)
 (u:∀b o v,r b o=some v->eb W b o v/\w.heap.size<=b/\b≠h) (j:W.heap[h]?=some (.cells q y (0,0))) (A:d.size=N)
 (x:∀t m,tm[t]?=some m->Rel r (Lv h) m (d.getD t undef)) (p:q.size=c.length) (e:∀k m,c[k]?=some m->Rel r (Lv h) m (q.getD k undef)):
 dL ⟨w.heap.size,w,λ_ _=>none,N,λ_ _=>True,λ_ _ _ _ _ _ _=>trivial⟩ (Cb tm c).get W ⟨d,[]⟩:=
 GG (.inl (J1 _)) z i u j A x p e
theorem Ii{p:RO}{o:Own}{b:Nat}{d:List SV}{c:List Value}(q:∀k,k<c.length->p b k=c[k]?)(h:aQ p Own.empty d c):Rel p o (.rA d.length 1 (λ_=>d) 0 0) (.pointer (some ⟨b,0,none⟩)):=by
 have y:=h.length;have e:(⟨b,0+0*d.length+0,none⟩:Addr)=⟨b,0,none⟩:=by simp
 rw[<-e];refine .rA o d.length 1 (λ_=>d) 0 0 b 0 (λk=>c.getD k undef) (λ_ _=>rfl) (λk z=>?_) (λi j r A u=>?_) Nat.zero_lt_one
 . have m:k<c.length:=by omega
   rw[Jg,q k m,J0,J4 m];rfl
 . obtain rfl:i=0:=by omega
   obtain⟨v,w,x⟩:=h.at j r u;rw[Yy,Jg,J0,w];exact x
theorem I0{p:RO}{o:Own}{b d:Nat}{e:List SV}{c:List Value}(r:1<=d)(q:∀k,k<c.length->p b k=c[k]?)(h:aQ p Own.empty e c):Rel p o (.bF e.length 1 (λ_=>e)) (.slice (some ⟨b,0,none⟩) 1 d):=by
 have z:=h.length;refine .bF _ _ _ _ b 0 d (λk=>c.getD k undef) r (λ_ _=>rfl) (λk A=>?_) (λi j u B w=>?_)
 . have m:k<c.length:=by omega
   rw[Jg,q k m,J0,J4 m];rfl
 . obtain rfl:i=0:=by omega
   obtain⟨v,x,y⟩:=h.at j u w;rw[Yy,Jg,J0,x];exact y
end Go.Sx
