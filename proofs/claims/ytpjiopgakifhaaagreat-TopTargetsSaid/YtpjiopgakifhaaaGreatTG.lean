import Derived.Test.YtpjiopgakifhaaaGreatTF
import Derived.Test.YtpjiopgakifhaaaGreatTD
import Derived.Scope
set_option linter.unusedSectionVars false
set_option linter.unusedSimpArgs false
set_option linter.unusedVariables false
set_option maxRecDepth 100000
namespace Go.Sx
open Go Go.RowKit
variable [bW]
theorem AO (g:Loc->Item): ∀(ws:List (Loc×Item)) (σ:St),(∀x∈ws,x.2=g x.1)-> ∀l,(σ.apply ws) l=if l∈ws.map (·.1)then g l else σ l
 |[],σ,_,l=>by simp [St.apply]
 |(l0,x)::r,σ,h,l=>by
  simp only [St.apply];rw [AO g r _ (fun y hy=>h y (by simp [hy])) l];have hx:x=g l0:=h (l0,x) (by simp)
  by_cases h1:l∈r.map (·.1)
  . rw [if_pos h1,if_pos (by simp only [J8,Kd];exact .inr h1)]
  . rw [if_neg h1]
    by_cases h2:l=l0
    . subst h2;rw [St.cQ,if_pos (by simp),hx]
    . rw [St.bh _ _ h2,if_neg (by simp only [J8,Kd];rintro(q|q);exact h2 q;exact h1 q)]
def Hz (en:Trie Rn):Loc->Item
 | .tm t=> .v .any
 | .mt id=> .m ((en.at id).map (·.1))
 | .sg id q=> .s (((en.at id).bind fun e=>e.2[q]?).getD (.s .any))
def Eh (id:Nat):List Loc:= .mt id::(List.range 64).map (.sg id ·)
def Lj (en:Trie Rn) (ids:List Nat):List (Loc×Item):=(ids.flatMap Eh).map fun l=>(l,Hz en l)
theorem jD {id:Nat} {l:Loc}:l∈Eh id↔l= .mt id\/ ∃q,q<64/\l= .sg id q:=by
 simp only [Eh,Kd,Kh,Kn];constructor
 . rintro(h|⟨q,h1,rfl⟩)
   . exact .inl h
   . exact .inr ⟨q,h1,rfl⟩
 . rintro(h|⟨q,h1,rfl⟩)
   . exact .inl h
   . exact .inr ⟨q,h1,rfl⟩
theorem nD (en:Trie Rn) (ids:List Nat) (σ:St) (l:Loc):(σ.apply (Lj en ids)) l=if l∈ids.flatMap Eh then Hz en l else σ l:=by
 rw [AO (Hz en) _ _ (fun x hx=> ?_)]
 . congr 1
   simp [Lj,List.map_map,Xo]
 . simp only [Lj,Kh]at hx;obtain⟨l',_,rfl⟩:=hx;rfl
def lk (n m:Nat) (wr:List Nat):List Nat:=(List.range m).filter fun id=>decide (n<=id\/id∈wr)
theorem ie {n m:Nat} {wr:List Nat} {id:Nat}:id∈lk n m wr↔id<m/\(n<=id\/id∈wr):=by
 simp [lk]
section
variable {X : DX} {N : Nat} {ops : Array Oper} {i : Nat} {o : Oper}
def rR (n m:Nat):List Loc:=(List.range m).map (.mt ·)++(List.range n).flatMap Eh
theorem KH {n m id:Nat} (h:id<m):Loc.mt id∈rR n m:=by simp [rR,h]
theorem Zk {n m id q:Nat} (h:id<n) (hq:q<64):Loc.sg id q∈rR n m:=by
 simp only [rR,Xt,X1,Kn];exact .inr ⟨id,h,jD.2 (.inr ⟨q,hq,rfl⟩)⟩
theorem C6 (n m:Nat) (h:n<=m):Sub (rR n m) (Tw n m):=by
 intro l hl;simp only [rR,Xt,Kh,X1,Kn]at hl;rcases hl with⟨id,h1,rfl⟩|⟨id,h1,h2⟩
 . exact Io h1
 . rcases jD.1 h2 with rfl|⟨q,hq,rfl⟩
   . exact Io (by omega)
   . exact Qt h1 hq
theorem Fp (en:Trie Rn) (n m:Nat) (wr:List Nat):Sub ((Lj en (lk n m wr)).map (·.1)) (Ms n m wr):=by
 intro l hl;simp only [Lj,List.map_map,Xo,List.map_id']at hl;obtain⟨id,h1,h2⟩:=X1.1 hl;obtain⟨h3,h4⟩:=ie.1 h1;have key:(Ms n m wr).testBit (Loc.mt id).enc=true/\ ∀q,q<64->(Ms n m wr).testBit (Loc.sg id q).enc=true:=by
  rcases h4 with h4|h4
  . exact Iw h4 h3
  . exact I7 h4
 rcases jD.1 h2 with rfl|⟨q,hq,rfl⟩
 . exact key.1
 . exact key.2 q hq
theorem Iq {nx:Nat} {en:Trie Rn} (h:GE nx en) {id:Nat} (hi:nx<=id):en.at id=none:=by
 cases he:en.at id with
 |none=>rfl
 |some e=>have:=(h id e he).2.2;omega
theorem TS {nx:Nat} {en:Trie Rn} (h:GE nx en) {id q:Nat} (hq:64<=q):((en.at id).bind fun e=>e.2[q]?).getD (.s .any)= .s .any:=by
 cases he:en.at id with
 |none=>rfl
 |some e=>
  have:=(h id e he).2.1;simp only [Xg];rw [J7 (by omega)];rfl
theorem Fq {call:Nat->Func->List SV->cg->rV} (hX:An X) (hcall:nE X call) {s s1:cg} {R0 R:List Loc} {f:Nat} {fn:Func} {ca cb xs:List SV} {c:Call} {r:SV} {tm':Trie SV}
 (hoi:ops[i]?=some o) (hd: ∀d,o.dst=some d->d<N) (hw:rU N ops o s R0 true) (hg:GE s.nx s.en) (hb:s.b0<=s.nx)
 (hc:ss s o=some (f,ca,cb,c)) (hrd:(jI c.args.toList fun xs=> .done [(.tm 0, .v (.bp xs))]).lh s (Gz c R0)=some (R,[(.tm 0, .v (.bp xs))]))
 (hf:X.I f=some fn) (hrun:call f fn (ca++xs++cb) s= .ok r s1) (htm: ∀t,(tm'.at t).getD (.bp [])=if o.dst=some t then norm cA r else(s.tm.at t).getD (.bp [])) (hRl:nK s.nx R=true):
 tN X N ops i s ⟨tm',s1.en,s1.nx,s.b0,s1.wr.filter (Nat.blt · s.b0)++s.wr⟩ (R++rR s.nx s1.nx) (yj o.dst (norm cA r)++Lj s1.en (lk s.nx s1.nx s1.wr)):=by
 obtain⟨c1,c2,c3,c4⟩:=hcall.ok f fn _ s r s1 hf hrun hg;have same: ∀id,id∉lk s.nx s1.nx s1.wr->s1.en.at id=s.en.at id:=fun id hid=>by
  rw [ie]at hid;rcases Kv id s.nx with h1|h1
  . exact c3 id h1 (fun hw=>hid ⟨by omega, .inr hw⟩)
  . rcases Kv id s1.nx with h2|h2
    . exact(hid ⟨h2, .inl h1⟩).elim
    . rw [Iq c2 h2,Iq hg h1]
 have dapp: ∀(S:St) (l:Loc),(S.apply (yj o.dst (norm cA r))) l=match l with
  | .tm t=>if o.dst=some t then .v (norm cA r)else S (.tm t)
  |l=>S l:=by
  intro S l;unfold yj;cases hdd:o.dst with
  |none=>cases l<;>simp [St.apply]
  |some d=>
   simp only [St.apply];cases l with
   |tm t=>
    simp only [St.put,Loc.tm.injEq,J3]
    by_cases e:t=d
    . subst e;simp
    . rw [if_neg e,if_neg (fun h=>e h.symm)]
   |mt id=>simp [St.put]
   |sg id q=>simp [St.put]
 have notm: ∀t ids,Loc.tm t∉List.flatMap Eh ids:=fun t ids h=>by
  obtain⟨id,_,h2⟩:=X1.1 h;rcases jD.1 h2 with h3|⟨q,_,h3⟩<;>cases h3
 have mtm: ∀id ids,Loc.mt id∈List.flatMap Eh ids↔id∈ids:=fun id ids=>by
  constructor
  . intro h;obtain⟨id',h1,h2⟩:=X1.1 h;rcases jD.1 h2 with h3|⟨q,_,h3⟩
    . cases h3;exact h1
    . cases h3
  . intro h;exact X1.2 ⟨id,h,jD.2 (.inl rfl)⟩
 have sgm: ∀id q ids,Loc.sg id q∈List.flatMap Eh ids↔id∈ids/\q<64:=fun id q ids=>by
  constructor
  . intro h;obtain⟨id',h1,h2⟩:=X1.1 h;rcases jD.1 h2 with h3|⟨q',hq,h3⟩
    . cases h3
    . cases h3;exact⟨h1,hq⟩
  . intro h;exact X1.2 ⟨id,h.1,jD.2 (.inr ⟨q,h.2,rfl⟩)⟩
 refine⟨c1,c2,rfl,fun id h1 h2=> ?_,fun M σ hM=> ?_,fun E M σ hN hM s'' hag w a Q K hsim hK=> ?_⟩
 . simp only [Xt,List.mem_filter,not_or,not_and]at h2;refine⟨c3 id (by omega) fun hw=> ?_,h2.2⟩;exact h2.1 hw (by rw [zb];exact h1)
 . rw [aM]
   funext l
   rw [nD,dapp];simp only at hM;cases l with
   |tm t=>
    rw [if_neg (notm t _)];simp only [mix,cg.get];rw [htm];split<;>rfl
   |mt id=>
    simp only [mtm,mix,cg.get,Hz]
    by_cases hid:id∈lk s.nx s1.nx s1.wr
    . rw [if_pos hid,if_pos (by have:=(ie.1 hid).1;omega)]
    . rw [if_neg hid,same id hid]
   |sg id q=>
    simp only [sgm,mix,cg.get,Hz]
    by_cases hM2:id<M
    . rw [if_pos hM2,if_pos hM2]
      by_cases hid:id∈lk s.nx s1.nx s1.wr
      . by_cases hq:q<64
        . rw [if_pos ⟨hid,hq⟩]
        . rw [if_neg (fun h=>hq h.2),TS c2 (by omega),TS hg (by omega)]
      . rw [if_neg (fun h=>hid h.1),same id hid]
    . have hid:id∉lk s.nx s1.nx s1.wr:=fun h=>hM2 (by have:=(ie.1 h).1;omega)
      rw [if_neg hM2,if_neg hM2,if_neg (fun h=>hid h.1)]
 . simp only at hM;obtain⟨h1,h2,h3⟩:=Tx.ki hrd;have hloc: ∀l∈R,gF M l:=fun l hl=>kQ (by omega) (mg hRl l hl)
   have hagR: ∀l∈R,s'' l=mix M s σ l:=fun l hl=>hag l (by simp [hl])
   obtain⟨e1,e2,e3⟩:=hX.I f fn hf;unfold wpOp;rw [hoi];simp only [hw E M σ hN s'' w a (fun l hl=>hagR l (h3 l (by unfold Gz;split<;>simp [hl]))) hsim,if_true];left;obtain⟨ro,own,hsg⟩:=hsim;obtain⟨vals,hrun2,hrel⟩:=zC (o:=o) (X:=X) (M:=M) (σ:=σ) hc hrd hagR hloc hsg ⟨e1,by simp [e2],e3⟩;have hmt: ∀id,id<s1.nx->s'' (.mt id)= .m ((s.en.at id).map (·.1)):=fun id hid=>by
    rw [hag (.mt id) (by simp [KH hid])];simp only [mix,cg.get];rw [if_pos (by omega)]
   have hsgq: ∀id q,id<s.nx->q<64->s'' (.sg id q)= .s (((s.en.at id).bind fun e=>e.2[q]?).getD (.s .any)):=fun id q hid hq=>by
    rw [hag (.sg id q) (by simp [Zk hid hq])];simp only [mix,cg.get];rw [if_pos (by omega)]
   have hover:bA E ro own (lU s1.nx s.en s'') w a:=by
    refine hsg.congr (fun t=>rfl) (fun id=> ?_) fun id m q hm hq=> ?_
    . simp only [lU];split
      . rename_i hid;rw [hmt id hid]
      . rfl
    . simp only [lU];split
      . rename_i hid;rw [hmt id hid]at hm;cases he:s.en.at id with
        |none=>rw [he]at hm;simp at hm
        |some e=>
         rw [he]at hm;simp at hm;obtain⟨g1,g2,g3⟩:=hg id e he;rw [hsgq id q g3 (by rcases hq with hq|hq;rw [hm]at g1;omega;omega),he]
      . rfl
   have hcl:=c4 E s1.nx s'' ro own w a vals (J1 _) hover hrel;unfold Oper.wp;rw [hrun2];show Calls X.P f vals w _
   refine hcl.mono ?_;rintro e w' ⟨v,rfl,ro2,own2,k1,k2,k3,k4⟩;show K (a.put o.dst v) w'
   refine hK _ _ ?_;have k4:=nb cA r _ _ _ k4;have put:bA E ro2 own2 ((lU s1.nx s1.en s'').apply (yj o.dst (norm cA r))) w' (a.put o.dst v):=by
    unfold yj;cases hdd:o.dst with
    |none=>exact k3
    |some d=>exact k3.put (by rw [hN];exact hd d hdd) k4
   refine⟨ro2,own2,put.congr (fun t=> ?_) (fun id=> ?_) fun id m q hm hq=> ?_⟩
   . rw [aM,nD,dapp,dapp,if_neg (notm t _)];rfl
   . rw [aM,nD,dapp,dapp];simp only [mtm,Hz,lU]
     by_cases hid:id∈lk s.nx s1.nx s1.wr
     . rw [if_pos hid,if_pos (ie.1 hid).1]
     . rw [if_neg hid];split
       . rename_i hlt;rw [hmt id hlt,same id hid]
       . rfl
   . rw [dapp]at hm;rw [aM,nD,dapp,dapp];simp only [sgm,Hz,lU]at hm⊢
     by_cases hlt:id<s1.nx
     . rw [if_pos hlt]at hm;cases he:s1.en.at id with
       |none=>rw [he]at hm;simp at hm
       |some e=>
        rw [he]at hm;simp at hm;obtain⟨g1,g2,g3⟩:=c2 id e he;have hq64:q<64:=by rcases hq with hq|hq;rw [hm]at g1;omega;omega
        by_cases hid:id∈lk s.nx s1.nx s1.wr
        . rw [if_pos ⟨hid,hq64⟩,if_pos hlt]
        . rw [if_neg (fun h=>hid h.1),if_pos hlt];have hlo:id<s.nx:=by
           rw [ie]at hid;rcases Kv id s.nx with h|h
           . exact h
           . exact(hid ⟨hlt, .inl h⟩).elim
          rw [hsgq id q hlo hq64,<-same id hid,he]
     . rw [if_neg hlt];have hid:id∉lk s.nx s1.nx s1.wr:=fun h=>hlt (ie.1 h).1
       rw [if_neg (fun h=>hid h.1)]
end
end Go.Sx
namespace Go.Sx
open Go Go.RowKit
variable [bW]
section
variable {X : DX} {N F : Nat} {call : Nat -> Func -> List SV -> cg -> rV} {ops : Array Oper}
theorem Db {i:Nat} {s s':cg} {R:List Loc} {ws:List (Loc×Item)} {t:Da} (h:FH F i s R ws= .ok s' t):s.app (ws.map (iy cA))=some s'/\nK s'.nx R=true/\t=(bY R,bY ((ws.map (iy cA)).map (·.1))):=by
 simp only [FH,FW,EW]at h;cases h1:s.app (ws.map (iy cA))with
 |none=>rw [h1]at h;simp [cZ]at h
 |some s2=>
  rw [h1]at h;simp only [cZ]at h;cases h2:nK s2.nx R with
  |false=>rw [h2]at h;simp at h
  |true=>
   rw [h2]at h;simp only [Au.ok.injEq]at h;obtain⟨rfl,rfl⟩:=h;exact⟨rfl,h2,rfl⟩
theorem xR (hX:An X) (hcall:nE X call) {i:Nat} {o:Oper} {s s':cg} {R0 R:List Loc} {t:Da} {f:Nat} {ca cb xs:List SV} {c:Call} (hoi:ops[i]?=some o) (hd: ∀d,o.dst=some d->d<N) (hw:rU N ops o s R0 true) (hg:GE s.nx s.en) (hb:s.b0<=s.nx)
 (hc:ss s o=some (f,ca,cb,c)) (hrd:(jI c.args.toList fun xs=> .done [(.tm 0, .v (.bp xs))]).lh s (Gz c R0)=some (R,[(.tm 0, .v (.bp xs))])) (h:JJ X F call o i s f (ca++xs++cb) R= .ok s' t):
 ∃R ws,tN X N ops i s s' R ws/\Sub R t.1/\Sub (ws.map (·.1)) t.2:=by
 unfold JJ at h;split at h
 . rename_i fn hf;unfold S0 at h;split at h
   . rename_i r tm1 en nx b1 wr hrun;rw [ug]at h;obtain⟨tm,en0,nx0,b0,wr0⟩:=s;simp only at h;cases hR:nK nx0 R with
     |false=>rw [hR]at h;cases h
     |true=>
      rw [hR]at h;simp only at h;cases hdd:o.dst with
      |none=>
       rw [hdd]at h;simp only [Au.ok.injEq]at h;obtain⟨rfl,rfl⟩:=h;have one:=Fq (o:=o) (ops:=ops) (i:=i) hX hcall hoi hd hw hg hb hc hrd hf hrun (tm':=tm) (fun t=>by simp [hdd]) hR;refine⟨_,_,one,(Sub.self R).or (C6 _ _ ?_),?_⟩
       . exact(hcall.ok f fn _ _ r _ hf hrun hg).1
       . rw [hdd];simp only [yj,Jj,Wt,Nat.zero_or];exact Fp _ _ _ _
      |some d=>
       rw [hdd]at h;simp only [Trie.put_eq]at h;cases hi:Trie.ins jX tm d (norm cA r)with
       |none=>rw [hi]at h;simp [cZ]at h
       |some tm'=>
        rw [hi]at h;simp only [cZ,Au.ok.injEq]at h;obtain⟨rfl,rfl⟩:=h;have one:=Fq (o:=o) (ops:=ops) (i:=i) hX hcall hoi hd hw hg hb hc hrd hf hrun (tm':=tm') (fun t=>by
         rw [Trie.pY _ hi,hdd]
         by_cases e:t=d
         . subst e;simp
         . rw [if_neg e,if_neg (fun h=>e (by simpa using h.symm))]) hR
        refine⟨_,_,one,(Sub.self R).or (C6 _ _ ?_),?_⟩
        . exact(hcall.ok f fn _ _ r _ hf hrun hg).1
        . rw [hdd,Qx];refine Sub.or ?_ (Fp _ _ _ _);intro l hl;simp [yj]at hl;subst hl;simp [Wt,Loc.enc,Ze,Nat.testBit_two_pow_self]
   . cases h
 . cases h
theorem yq (hX:An X) (hcall:nE X call) {i:Nat} {o:Oper} {s s':cg} {R0:List Loc} {t:Da} (hoi:ops[i]?=some o) (hd: ∀d,o.dst=some d->d<N) (hw:rU N ops o s R0 true) (hg:GE s.nx s.en) (hb:s.b0<=s.nx) (h:Fx X N F call o i s R0= .ok s' t):
 ∃R ws,tN X N ops i s s' R ws/\Sub R t.1/\Sub (ws.map (·.1)) t.2:=by
 unfold Fx at h;split at h
 . rename_i f ca cb c hc;split at h
   . rename_i R xs hrd;split at h
     . rename_i d hfd;unfold Td at h;split at h
       . rename_i R2 xs' wsr hres;rw [pZ (ug cA)]at h;split at h
         . rename_i r hdr;obtain⟨k1,k2,k3⟩:=Db h;have:=NT (o:=o) (ops:=ops) (i:=i) hX hoi hd hw hg hb hc hrd hfd hres hdr k1 k2;refine⟨_,_,this,?_,?_⟩
           . rw [k3];exact Sub.self _
           . rw [k3];exact Sub.self _
         . exact xR hX hcall hoi hd hw hg hb hc hrd h
       . exact xR hX hcall hoi hd hw hg hb hc hrd h
     . exact xR hX hcall hoi hd hw hg hb hc hrd h
   . cases h
 . rename_i hc;split at h
   . rename_i R ws hrun;obtain⟨k1,k2,k3⟩:=Db h;refine⟨_,_,op_one hX.H hoi hw hg hb hrun k1 k2,?_,?_⟩
     . rw [k3];exact Sub.self _
     . rw [k3];exact Sub.self _
   . cases h
theorem Mm (hX:An X) (hcall:nE X call) {i:Nat} {o:Oper} {s s':cg} {t:Da} (hoi:ops[i]?=some o) (hgs: ∀t,(match o.guard with|some (j,_)=>ir ops j=some t->t<N|none=>True)) (hd: ∀d,o.dst=some d->d<N) (hg:GE s.nx s.en) (hb:s.b0<=s.nx) (h:I1 X N F call ops o i s= .ok s' t):
 ∃R ws,tN X N ops i s s' R ws/\Sub R t.1/\Sub (ws.map (·.1)) t.2:=by
 have skip: ∀{R0:List Loc},rU N ops o s R0 false->FH F i s R0 (lL o.dst)= .ok s' t-> ∃R ws,tN X N ops i s s' R ws/\Sub R t.1/\Sub (ws.map (·.1)) t.2:=by
  intro R0 hw h;obtain⟨k1,k2,k3⟩:=Db h;refine⟨_,_,Ov hoi hd hw hg hb k1,?_,?_⟩
  . rw [k3];exact Sub.self _
  . rw [k3];exact Sub.self _
 unfold I1 at h;split at h
 . rename_i hgd;exact yq hX hcall hoi hd (R0:=[]) (fun _ _ _ _ _ _ _ _ _=>by simp [Region.wanted,hgd]) hg hb h
 . rename_i j want hgd;split at h
   case h_2=>cases h
   rename_i t0 hj;have htN:t0<N:=by
    have:=hgs t0;rw [hgd]at this;exact this hj
   have yl: ∀{x:SV} (E:Env) (M:Nat) (σ:St),E.N=N->s.get (.tm t0)= .v x-> ∀(s'':St) (w:World) (a:Act),(∀l∈[Loc.tm t0],s'' l=mix M s σ l)->dL E s'' w a-> ∃v,(∃ro own,Rel ro own x v)/\yielded ops a.tmps j=match v with| .bool b=>some b|_=>none:=by
    intro x E M σ hN hx s'' w a hag hs;have hx':s'' (.tm t0)= .v x:=by rw [hag _ (by simp)];exact hx
    obtain⟨ro,own,hsg⟩:=hs;have hr:=hsg.tm t0 x hx';exact⟨_,⟨ro,own,hr⟩,yV ⟨ro,own,hsg⟩ hj (by rw [hN];exact htN) hx' _ ⟨ro,own,hr,rfl⟩⟩
   split at h
   . rename_i hx;have y1: ∀(E:Env) M σ,E.N=N-> ∀(s'':St) (w:World) (a:Act),(∀l∈[Loc.tm t0],s'' l=mix M s σ l)->dL E s'' w a->yielded ops a.tmps j=some true:=fun E M σ hN s'' w a hag hs=>by
      obtain⟨v,⟨_,_,hr⟩,hy⟩:=yl E M σ hN hx s'' w a hag hs;rw [hy,nX hr]
     split at h
     . exact yq hX hcall hoi hd (fun E M σ hN s'' w a hag hs=>by simp [Region.wanted,hgd,y1 E M σ hN s'' w a hag hs]) hg hb h
     . exact skip (fun E M σ hN s'' w a hag hs=>by simp [Region.wanted,hgd,y1 E M σ hN s'' w a hag hs]) h
   . rename_i hx;have y1: ∀(E:Env) M σ,E.N=N-> ∀(s'':St) (w:World) (a:Act),(∀l∈[Loc.tm t0],s'' l=mix M s σ l)->dL E s'' w a->yielded ops a.tmps j=some false:=fun E M σ hN s'' w a hag hs=>by
      obtain⟨v,⟨_,_,hr⟩,hy⟩:=yl E M σ hN hx s'' w a hag hs;rw [hy,qD hr]
     split at h
     . exact skip (fun E M σ hN s'' w a hag hs=>by simp [Region.wanted,hgd,y1 E M σ hN s'' w a hag hs]) h
     . exact yq hX hcall hoi hd (fun E M σ hN s'' w a hag hs=>by simp [Region.wanted,hgd,y1 E M σ hN s'' w a hag hs]) hg hb h
   . rename_i hx;refine skip (fun E M σ hN s'' w a hag hs=> ?_) h;obtain⟨v,⟨_,_,hr⟩,hy⟩:=yl E M σ hN hx s'' w a hag hs;obtain⟨vs,hv,_⟩:=jt hr;rw [hv]at hy;simp [Region.wanted,hgd,hy]
   . cases h
structure oW (s s1 : cg) : Prop where
 nx : s.nx <= s1.nx
 ge : GE s1.nx s1.en
 b0 : s1.b0 = s.b0
 P8 : ∀ id, id < s.b0 -> id ∉ s1.wr -> s1.en.at id = s.en.at id /\ id ∉ s.wr
theorem oW.refl {s:cg} (h:GE s.nx s.en):oW s s:=⟨J1 _,h,rfl,fun id _ hw=>⟨rfl,hw⟩⟩
theorem oW.trans {a b c:cg} (h:oW a b) (k:oW b c):oW a c:=by
 refine⟨Jn h.nx k.nx,k.ge,k.b0.trans h.b0,fun id h1 h2=> ?_⟩;obtain⟨e1,e2⟩:=k.P8 id (by rw [h.b0];exact h1) h2;obtain⟨e3,e4⟩:=h.P8 id h1 e2;exact⟨e1.trans e3,e4⟩
theorem FB (hX:An X) (hcall:nE X call) {draw:Bool}: ∀{l:List Oper} {i:Nat} {s:cg} {tr:List Da} {k:cg->List Da->Out} {o:Out},AE X N F call ops draw l i s tr k=o->(∀f i,o≠ .bad f i)->GE s.nx s.en->s.b0<=s.nx->(∀j,j<l.length->l[j]?=ops[i+j]?)->
 (∀o∈l,∀t,(match o.guard with|some (j,_)=>ir ops j=some t->t<N|none=>True))->(∀o∈l,∀d,o.dst=some d->d<N)->
 ∃(st:List Step) (s1:cg) (tr1:List Da),st.length=l.length/\k s1 tr1=o/\(draw=true-> ∃mk,tr1=tr++mk/\G6 st mk)/\oW s s1/\(∀M σ,s1.nx<=M->mix M s1 σ=(mix M s σ).apply (st.flatMap (·.ws)))/\
  ∀(E:Env) M σ,E.N=N->s1.nx<=M-> ∀(m:Nat) (x:Step),st[m]?=some x->nV E X.P ops (i+m) ((mix M s σ).apply ((st.take m).flatMap (·.ws))) x.R x.ws
 |[],i,s,tr,k,o,h,hgood,hg,hb,_,_,_=>⟨[],s,tr,rfl,h,fun _=>⟨[],by simp, .nil⟩, .refl hg,fun _ _ _=>rfl,by simp⟩
 |op::rest,i,s,tr,k,o,h,hgood,hg,hb,hops,hgs,hds=>by
  have hoi:ops[i]?=some op:=by simpa using (hops 0 (by simp)).symm
  simp only [AE]at h;cases hst:I1 X N F call ops op i s with
  |bad f j=>rw [hst]at h;exact absurd h.symm (hgood f j)
  |ok s' t=>
   rw [hst]at h;simp only at h;obtain⟨R,ws,one,m1,m2⟩:=Mm hX hcall hoi (hgs op (by simp)) (hds op (by simp)) hg hb hst;have k1:oW s s':=⟨one.nx,one.ge,one.b0,one.P8⟩;obtain⟨tr',hrest,htr⟩: ∃tr',AE X N F call ops draw rest (i+1) s' tr' k=o/\(draw=true->tr'=tr++[t]):=by
    cases draw with
    |true=>exact⟨_,h,fun _=>rfl⟩
    |false=>exact⟨_,h,fun h=>by cases h⟩
   obtain⟨st,s1,tr1,q1,q2,q3,q4,q5,q6⟩:=FB hX hcall hrest hgood one.ge (by rw [one.b0];exact Jn hb one.nx) (fun j hj=>by have:=hops (j+1) (by simpa using hj);simpa [Kt,Nat.add_comm 1 j]using this) (fun o' ho'=>hgs o' (by simp [ho'])) (fun o' ho'=>hds o' (by simp [ho']));refine⟨⟨R,ws⟩::st,s1,tr1,by simp [q1],q2,fun hdr=> ?_,k1.trans q4,fun M σ hM=> ?_,fun E M σ hN hM m x hx=> ?_⟩
   . obtain⟨mk,e1,e2⟩:=q3 hdr;refine⟨t::mk,?_, .cons m1 m2 e2⟩;rw [e1,htr hdr];simp
   . rw [q5 M σ hM,one.mx M σ (Jn q4.nx hM),Xq,aM]
   . cases m with
     |zero=>simp at hx;subst hx;exact one.st E M σ hN (Jn q4.nx hM)
     |succ m=>
      simp at hx;have:=q6 E M σ hN hM m x hx;rw [one.mx M σ (Jn q4.nx hM)]at this;simp only [Qu,Xq,aM];rw [show i+(m+1)=i+1+m from by omega];exact this
def Out.ak :Out->Option (Exit×cg)
 | .n s=>some (.normal,s)
 | .x i s=>some (.exit i,s)
 | .r s=>some (.ret,s)
 | .bad _ _=>none
def Ab (X:DX) (N:Nat) (c:Code) (s:cg) (o:Out):Prop:= ∀e s1,o.ak=some (e,s1)->GE s.nx s.en->s.b0<=s.nx->oW s s1/\
 ∀(E:Env) M σ,E.N=N->s1.nx<=M-> ∀(Q:Exit->Act->World->Prop) (a:Act) (w:World),(∀a' w',dL E (mix M s1 σ) w' a'->Q e a' w')->dL E (mix M s σ) w a->c.wp X.P Q a w
theorem Bp {s:cg} {c:Operand} {b:Bool} {E:Env} {M:Nat} {σ:St} {w:World} {a:Act} (h:Cc s c=some b) (hs:dL E (mix M s σ) w a):a.eval c= .bool b:=by
 unfold Cc at h;obtain⟨ro,own,hg⟩:=hs;split at h
 . rename_i t;split at h
   . rename_i ht;simp at h;subst h;exact nX (hg.tm t _ ht)
   . rename_i ht;simp at h;subst h;exact qD (hg.tm t _ ht)
   . cases h
 . rename_i b';cases b'<;>simp at h<;>subst h<;>rfl
 . cases h
theorem KE (hX:An X) (hcall:nE X call) (hm:X.P.follows .mixedOrders=true) {rid:Nat} {ops:Array Oper} {draw:Bool} {s:cg} {o:Out} (again:Code->cg->Out) (h:sK X N F call again (.region rid ops draw) s=o):Ab X N (.region rid ops draw) s o:=by
 intro e s1 hgo hg hb;unfold sK at h;split at h
 case h_2=>subst h;simp [Out.ak]at hgo
 rename_i hok;simp only [FL,Js,J2]at hok;have hgood: ∀f i,o≠ .bad f i:=fun f i e=>by rw [e]at hgo;simp [Out.ak]at hgo
 obtain⟨st,s2,tr1,q1,q2,q3,q4,q5,q6⟩:=FB hX hcall h hgood hg hb (fun j hj=>by simp) (fun o ho t=>by
  have:=(hok o ho).2;split
  . rename_i j b hgd;intro ht;simp only [hgd,ht]at this;simpa [Z1]using this
  . trivial) (fun o ho d hd=>by
  have:=(hok o ho).1;rw [hd]at this;simpa [Z1]using this)
 have fin:o= .n s2/\(draw=true->Nr ops tr1=true):=by
  cases draw with
  |false=>exact⟨q2.symm,fun h=>by cases h⟩
  |true=>
   simp only at q2;cases ha:Nr ops tr1 with
   |true=>rw [ha]at q2;exact⟨q2.symm,fun _=>rfl⟩
   |false=>rw [ha]at q2;exact absurd q2.symm (hgood _ _)
 obtain⟨rfl,hany⟩:=fin;simp [Out.ak]at hgo;obtain⟨rfl,rfl⟩:=hgo;refine⟨q4,fun E M σ hN hM Q a w hQ hsim=> ?_⟩;have h4:=q6 E M σ hN hM;simp only [Jg]at h4;have hfin: ∀a w,dL E ((mix M s σ).apply (st.flatMap (·.ws))) w a->Q .normal a w:=fun a w hs=>hQ a w (by rw [q5 M σ hM];exact hs)
 cases draw with
 |false=>
  refine wp_region ?_;have:=vC (P:=X.P) (Q:=Q) (ops:=ops) st 0 (mix M s σ) (fun m x hx=>by simpa using h4 m x hx) hfin a w hsim;rw [q1,Array.length_toList,<-List.range_eq_range']at this;exact this
 |true=>
  obtain⟨mk,e1,e2⟩:=q3 rfl;have ha:=hany rfl;rw [e1]at ha;simp only [Jj]at ha;have hd:=anyD_ok e2 ha;refine wp_region_any hm (BH (st:=st) (s:=mix M s σ) (by rw [q1];simp) h4 hd hfin _ _ (by simp) (by simp [mq]) (fun j o ho hj=> ?_) a _ ?_)
  . simp [Xs]at hj;split at hj<;>cases hj
  . have:wG st 0 (fun m=>(Array.replicate ops.size false).getD m false) (mix M s σ)=mix M s σ:=by
     rw [<-lN st 0 (mix M s σ)]
     congr 1
     . funext m;simp [Xs];split<;>rfl
     . exact lN st 0 (mix M s σ)
    rw [this];obtain⟨ro,own,hg'⟩:=hsim;exact⟨ro,own,hg'.world rfl rfl rfl rfl⟩
end
end Go.Sx
namespace Go.Sx
open Go Go.RowKit
variable [bW]
section
variable {X : DX}
theorem oW.Rj {s s1:cg} (h:oW s s1) (hb:s.b0<=s.nx):s1.b0<=s1.nx:=by rw [h.b0];exact Jn hb h.nx
theorem Vo (hX:An X) (hm:X.P.follows .mixedOrders=true) {N F:Nat} {call:Nat->Func->List SV->cg->rV} (hcall:nE X call) {again:Code->cg->Out}
 (hloop: ∀c s o,sK X N F call again (.loop c) s=o->(∀s o,sK X N F call again c s=o->Ab X N c s o)->Ab X N (.loop c) s o):
 ∀(c:Code) (s:cg) (o:Out),sK X N F call again c s=o->Ab X N c s o:=by
 intro c
 induction c with
 |skip=>
  intro s o h e s1 hgo hg hb;simp only [sK]at h;subst h;simp [Out.ak]at hgo;obtain⟨rfl,rfl⟩:=hgo;exact⟨.refl hg,fun E M σ hN hM Q a w hQ hs=>wp_skip (hQ a w hs)⟩
 |label l=>
  intro s o h e s1 hgo hg hb;simp only [sK]at h;subst h;simp [Out.ak]at hgo;obtain⟨rfl,rfl⟩:=hgo;exact⟨.refl hg,fun E M σ hN hM Q a w hQ hs=>wp_label (hQ a w hs)⟩
 |seq x y ihx ihy=>
  intro s o h e s1 hgo hg hb;simp only [sK]at h;cases hx:sK X N F call again x s with
  |n s2=>
   rw [hx]at h;simp only at h;obtain⟨k1,r1⟩:=ihx s _ hx .normal s2 rfl hg hb;obtain⟨k2,r2⟩:=ihy s2 _ h e s1 hgo k1.ge (k1.Rj hb);exact⟨k1.trans k2,fun E M σ hN hM Q a w hQ hs=>wp_seq (r1 E M σ hN (Jn k2.nx hM) (Exit.then (y.wp X.P Q) Q) a w (fun a' w' h'=>r2 E M σ hN hM Q a' w' hQ h') hs)⟩
  |x i s2=>
   rw [hx]at h;simp only at h;subst h;obtain⟨k1,r1⟩:=ihx s _ hx e s1 hgo hg hb;simp [Out.ak]at hgo;obtain⟨rfl,rfl⟩:=hgo;exact⟨k1,fun E M σ hN hM Q a w hQ hs=>wp_seq (r1 E M σ hN hM (Exit.then (y.wp X.P Q) Q) a w hQ hs)⟩
  |r s2=>
   rw [hx]at h;simp only at h;subst h;obtain⟨k1,r1⟩:=ihx s _ hx e s1 hgo hg hb;simp [Out.ak]at hgo;obtain⟨rfl,rfl⟩:=hgo;exact⟨k1,fun E M σ hN hM Q a w hQ hs=>wp_seq (r1 E M σ hN hM (Exit.then (y.wp X.P Q) Q) a w hQ hs)⟩
  |bad f i=>
   rw [hx]at h;simp only at h;subst h;simp [Out.ak]at hgo
 |cond c x y ihx ihy=>
  intro s o h e s1 hgo hg hb;simp only [sK]at h;cases hc:Cc s c with
  |none=>rw [hc]at h;simp only at h;subst h;simp [Out.ak]at hgo
  |some b=>
   rw [hc]at h;cases b with
   |true=>
    simp only at h;obtain⟨k1,r1⟩:=ihx s _ h e s1 hgo hg hb;exact⟨k1,fun E M σ hN hM Q a w hQ hs=>wp_cond_true (Bp hc hs) (r1 E M σ hN hM Q a w hQ hs)⟩
   |false=>
    simp only at h;obtain⟨k1,r1⟩:=ihy s _ h e s1 hgo hg hb;exact⟨k1,fun E M σ hN hM Q a w hQ hs=>wp_cond_false (Bp hc hs) (r1 E M σ hN hM Q a w hQ hs)⟩
 |block id x ih=>
  intro s o h e s1 hgo hg hb;simp only [sK]at h;cases hx:sK X N F call again x s with
  |n s2=>
   rw [hx]at h;simp only at h;subst h;obtain⟨k1,r1⟩:=ih s _ hx e s1 hgo hg hb;simp [Out.ak]at hgo;obtain⟨rfl,rfl⟩:=hgo;exact⟨k1,fun E M σ hN hM Q a w hQ hs=>wp_block (r1 E M σ hN hM (Exit.inBlock id Q) a w (fun a' w' h'=>hQ a' w' h') hs)⟩
  |r s2=>
   rw [hx]at h;simp only at h;subst h;obtain⟨k1,r1⟩:=ih s _ hx e s1 hgo hg hb;simp [Out.ak]at hgo;obtain⟨rfl,rfl⟩:=hgo;exact⟨k1,fun E M σ hN hM Q a w hQ hs=>wp_block (r1 E M σ hN hM (Exit.inBlock id Q) a w (fun a' w' h'=>hQ a' w' h') hs)⟩
  |bad f i=>
   rw [hx]at h;simp only at h;subst h;simp [Out.ak]at hgo
  |x i s2=>
   rw [hx]at h;simp only at h;obtain⟨k1,r1⟩:=ih s _ hx (.exit i) s2 rfl hg hb;cases he:Nat.beq i id with
   |true=>
    have he:=Jd he;subst he;simp only [Yz]at h;subst h;simp [Out.ak]at hgo;obtain⟨rfl,rfl⟩:=hgo;refine⟨k1,fun E M σ hN hM Q a w hQ hs=>wp_block (r1 E M σ hN hM (Exit.inBlock i Q) a w (fun a' w' h'=> ?_) hs)⟩;simp only [Exit.inBlock,if_true];exact hQ a' w' h'
   |false=>
    rw [he]at h;simp only at h;subst h;simp [Out.ak]at hgo;obtain⟨rfl,rfl⟩:=hgo;refine⟨k1,fun E M σ hN hM Q a w hQ hs=>wp_block (r1 E M σ hN hM (Exit.inBlock id Q) a w (fun a' w' h'=> ?_) hs)⟩;simp only [Exit.inBlock];rw [if_neg (Nat.ne_of_beq_eq_false he)];exact hQ a' w' h'
 |exit id=>
  intro s o h e s1 hgo hg hb;simp only [sK]at h;subst h;simp [Out.ak]at hgo;obtain⟨rfl,rfl⟩:=hgo;exact⟨.refl hg,fun E M σ hN hM Q a w hQ hs=>wp_exit (hQ a w hs)⟩
 |ret=>
  intro s o h e s1 hgo hg hb;simp only [sK]at h;subst h;simp [Out.ak]at hgo;obtain⟨rfl,rfl⟩:=hgo;exact⟨.refl hg,fun E M σ hN hM Q a w hQ hs=>wp_ret (hQ a w hs)⟩
 |scope x ih=>
  intro s o h e s1 hgo hg hb;simp only [sK]at h;obtain⟨k1,r1⟩:=ih s _ h e s1 hgo hg hb;refine⟨k1,fun E M σ hN hM Q a w hQ hs=>wp_scope_straight (r1 E M σ hN hM (Exit.noGoto Q) a w (fun a' w' h'=> ?_) hs)⟩;have:=hQ a' w' h';have he:(∃s,o= .n s/\e= .normal)\/(∃i s,o= .x i s/\e= .exit i)\/(∃s,o= .r s/\e= .ret):=by
   cases o with
   |n s=>simp [Out.ak]at hgo;exact .inl ⟨_,rfl,hgo.1.symm⟩
   |x i s=>simp [Out.ak]at hgo;exact .inr (.inl ⟨_,_,rfl,hgo.1.symm⟩)
   |r s=>simp [Out.ak]at hgo;exact .inr (.inr ⟨_,rfl,hgo.1.symm⟩)
   |bad f i=>simp [Out.ak]at hgo
  rcases he with⟨_,_,rfl⟩|⟨i,_,_,rfl⟩|⟨_,_,rfl⟩<;>exact this
 |loop x ih=>
  intro s o h;exact hloop x s o h ih
 |region rid ops draw=>
  intro s o h;exact KE hX hcall hm again h
 |_=>
  intro s o h e s1 hgo hg hb;simp only [sK]at h;subst h;simp [Out.ak]at hgo
def Ry (X:DX) (n N F:Nat) (c:Code) (s:cg):Out:=sK X N F (oK X (ev X n)) (ev X n N F) c s
theorem wX (X:DX) (n N F:Nat) (c:Code) (s:cg):ev X (n+1) N F c s=Ry X n N F c s:=rfl
theorem QG {N F:Nat} {c:Code}: ∀(n:Nat),(∀k,k<=n-> ∀s o,Ry X k N F c s=o->Ab X N c s o)-> ∀s o,Ry X n N F (.loop c) s=o->Ab X N (.loop c) s o:=by
 intro n hbody s o h e s1 hgo hg hb;have keeps: ∀k,k<=n-> ∀s,Ry X k N F (.loop c) s=o->GE s.nx s.en->s.b0<=s.nx->oW s s1:=by
  intro k
  induction k with
  |zero=>
   intro hk s h hg hb;simp only [Ry,sK]at h;cases hx:sK X N F (oK X (ev X 0)) (ev X 0 N F) c s with
   |n s2=>rw [hx]at h;simp only [ev]at h;subst h;simp [Out.ak]at hgo
   |x i s2=>rw [hx]at h;simp only at h;subst h;exact(hbody 0 hk s _ hx e s1 hgo hg hb).1
   |r s2=>rw [hx]at h;simp only at h;subst h;exact(hbody 0 hk s _ hx e s1 hgo hg hb).1
   |bad f i=>rw [hx]at h;simp only at h;subst h;simp [Out.ak]at hgo
  |succ k ih=>
   intro hk s h hg hb;simp only [Ry,sK]at h;cases hx:sK X N F (oK X (ev X (k+1))) (ev X (k+1) N F) c s with
   |n s2=>
    rw [hx]at h;simp only [wX]at h;obtain⟨k1,_⟩:=hbody (k+1) hk s _ hx .normal s2 rfl hg hb;exact k1.trans (ih (by omega) s2 h k1.ge (k1.Rj hb))
   |x i s2=>rw [hx]at h;simp only at h;subst h;exact(hbody (k+1) hk s _ hx e s1 hgo hg hb).1
   |r s2=>rw [hx]at h;simp only at h;subst h;exact(hbody (k+1) hk s _ hx e s1 hgo hg hb).1
   |bad f i=>rw [hx]at h;simp only at h;subst h;simp [Out.ak]at hgo
 refine⟨keeps n (J1 _) s h hg hb,fun E M σ hN hM Q a w hQ hsim=> ?_⟩;refine wp_loop_ghost (fun k a w=>k<=n/\ ∃s,Ry X k N F (.loop c) s=o/\GE s.nx s.en/\s.b0<=s.nx/\dL E (mix M s σ) w a) n ⟨J1 _,s,h,hg,hb,hsim⟩ ?_;rintro k a w ⟨hk,s,h,hg,hb,hsim⟩;have h0:=h;simp only [Ry,sK]at h;cases hx:sK X N F (oK X (ev X k)) (ev X k N F) c s with
 |n s2=>
  rw [hx]at h;simp only at h;obtain⟨k1,r1⟩:=hbody k hk s _ hx .normal s2 rfl hg hb;cases k with
  |zero=>simp only [ev]at h;subst h;simp [Out.ak]at hgo
  |succ k=>
   simp only [wX]at h;have k2:=keeps k (by omega) s2 h k1.ge (k1.Rj hb);exact r1 E M σ hN (Jn k2.nx hM) _ a w (fun a' w' h'=>⟨k,by omega,by omega,s2,h,k1.ge,k1.Rj hb,h'⟩) hsim
 |x i s2=>
  rw [hx]at h;simp only at h;subst h;obtain⟨k1,r1⟩:=hbody k hk s _ hx e s1 hgo hg hb;simp [Out.ak]at hgo;obtain⟨rfl,rfl⟩:=hgo;exact r1 E M σ hN hM _ a w hQ hsim
 |r s2=>
  rw [hx]at h;simp only at h;subst h;obtain⟨k1,r1⟩:=hbody k hk s _ hx e s1 hgo hg hb;simp [Out.ak]at hgo;obtain⟨rfl,rfl⟩:=hgo;exact r1 E M σ hN hM _ a w hQ hsim
 |bad f i=>rw [hx]at h;simp only at h;subst h;simp [Out.ak]at hgo
theorem E4 : ∀{l:List SV} {i:Nat} {t:Trie SV} {k:Trie SV->rV} {r:SV} {s1:cg},JK l i t k= .ok r s1-> ∃t',k t'= .ok r s1/\ ∀j,t'.at j=if j<i then t.at j else if j<i+l.length then l[j-i]? else t.at j
 |[],i,t,k,r,s1,h=>⟨t,h,fun j=>by
  by_cases q:j<i
  . rw [if_pos q]
  . rw [if_neg q,if_neg (by simpa using q)]⟩
 |x::l,i,t,k,r,s1,h=>by
  simp only [JK,Trie.put_eq]at h;cases hi:Trie.ins jX t i x with
  |none=>rw [hi]at h;simp [cZ]at h
  |some t1=>
   rw [hi]at h;simp only [cZ]at h;obtain⟨t',h1,h2⟩:=E4 (l:=l) h;have ha:=Trie.pY _ hi;refine⟨t',h1,fun j=> ?_⟩;rw [h2];simp only [ha,Nat.succ_eq_add_one,Jc]
   by_cases q1:j<i
   . rw [if_pos (by omega),if_neg (by omega),if_pos q1]
   . by_cases q2:j=i
     . subst q2;rw [if_pos (by omega),if_pos rfl,if_neg (by omega),if_pos (by omega)];simp
     . by_cases q3:j<i+(l.length+1)
       . rw [if_neg (by omega),if_pos (by omega),if_neg q1,if_pos q3];rw [show j-i=(j-(i+1))+1 from by omega,Yb]
       . rw [if_neg (by omega),if_neg (by omega),if_neg q2,if_neg q1,if_neg q3]
theorem EB (hX:An X) {n:Nat} (hev: ∀N F c s o,ev X n N F c s=o->Ab X N c s o):nE X (oK X (ev X n)):=by
 refine⟨fun f fn args s r s' hf h hg=> ?_⟩;unfold oK at h;split at h
 case h_2=>cases h
 rename_i hble;have hlen:=Qk hble;obtain⟨tm,h,htm⟩:=E4 h;obtain⟨tm0,en,nx,b0,wr⟩:=s;simp only at h hg;obtain⟨e1,e2,e3⟩:=hX.I f fn hf;have hend: ∃e s2,(ev X n fn.ntmps f (mB fn) ⟨tm,en,nx,nx,[]⟩).ak=some (e,s2)/\(e= .normal\/e= .ret)/\s'=s2/\ ∃R,(oa X.P fn.results.toList fun xs=> .done [(.tm 0, .v (oneOf xs))]).lh s2 []=some (R,[(.tm 0, .v r)])/\nK s2.nx R=true:=by
  unfold gA at h;simp only at h;have go: ∀{s2:cg},(match (oa X.P fn.results.toList fun xs=> .done [(.tm 0, .v (oneOf xs))]).lh s2 []with
  |some (R,[(.tm 0, .v r)])=>(match nK s2.nx R with
   |true=>rV.ok r s2
   |false=> .bad f 9004)
  |_=> .bad f 9002)= .ok r s'->s'=s2/\ ∃R,(oa X.P fn.results.toList fun xs=> .done [(.tm 0, .v (oneOf xs))]).lh s2 []=some (R,[(.tm 0, .v r)])/\nK s2.nx R=true:=by
   intro s2 h;split at h
   . rename_i R r' hq;split at h
     . rename_i hok;simp only [rV.ok.injEq]at h;obtain⟨rfl,rfl⟩:=h;exact⟨rfl,R,hq,hok⟩
     . cases h
   . cases h
  cases ho:ev X n fn.ntmps f (mB fn) ⟨tm,en,nx,nx,[]⟩with
  |n s2=>rw [ho]at h;obtain⟨q1,q2⟩:=go h;exact⟨.normal,s2,rfl, .inl rfl,q1,q2⟩
  |r s2=>rw [ho]at h;obtain⟨q1,q2⟩:=go h;exact⟨.ret,s2,rfl, .inr rfl,q1,q2⟩
  |x i s2=>rw [ho]at h;cases h
  |bad f i=>rw [ho]at h;cases h
 obtain⟨e,s2,hgo,he,rfl,R,hres,hRok⟩:=hend;obtain⟨hk,hrun⟩:=hev _ _ _ _ _ rfl e s' hgo hg (J1 _);refine⟨hk.nx,hk.ge,fun id h1 h2=>(hk.P8 id h1 h2).1,fun E M σ ro own w a vals hM hs hrel=> ?_⟩;have hsz:vals.size=args.length:=by have:=hrel.length;simp at this;omega
 let E':Env:=⟨E.B,E.w0,E.R,fn.ntmps,fun o r=>own.le o/\ga ro r,fun o o' r r' h1 h2 h3=>⟨h3.1.trans h1,h3.2.trans h2⟩⟩
 let a0:Act:={tmps:=vals++Array.replicate (fn.ntmps-vals.size) undef,defers:=[]}
 have hs0:dL E' (mix M ⟨tm,en,nx,nx,[]⟩ σ) w a0:=by
  have hmt: ∀id,mix M ⟨tm,en,nx,nx,[]⟩ σ (.mt id)=lU M en σ (.mt id):=fun id=>rfl
  have hsg: ∀id q,mix M ⟨tm,en,nx,nx,[]⟩ σ (.sg id q)=lU M en σ (.sg id q):=fun id q=>rfl
  have hseg: ∀id k,St.az (mix M ⟨tm,en,nx,nx,[]⟩ σ) id k=St.az (lU M en σ) id k:=fun id k=>St.dc fun q _=>hsg id q
  refine⟨ro,own,{below:=hs.below,base:=hs.base,defs:=rfl,size:= ?_,tm:= ?_,cJ:=hs.cJ,ee:=hs.ee,gK:=fun id m hm=>by rw [hseg];exact hs.gK id m hm,fr:=fun id hm=>hs.fr id hm,mY:=fun id m hm=>hs.mY id m hm,inj:=fun id id' m m' b h1 h2=>hs.inj id id' m m' b h1 h2,kk:=⟨.refl _, .refl _⟩,mp:=⟨fun id m n e f h1=>hs.mp.at_ id m n e f h1,fun id id' m m' b n e f n' e' f' h1=>hs.mp.inj id id' m m' b n e f n' e' f' h1⟩}⟩
  . simp [a0,E'];omega
  . intro t sv ht;simp only [mix,cg.get,htm,Item.v.injEq]at ht;rw [if_neg (by omega),Trie.YT]at ht
    by_cases h1:t<args.length
    . rw [if_pos (by omega)]at ht;simp only [Xf,J4 h1,K5]at ht;subst ht;obtain⟨v,hv,hr⟩:=hrel.at t _ (J4 h1);have h2:t<vals.size:=by omega
      have:a0.tmps.getD t undef=v:=by
       simp only [Xp]at hv;simp [a0,Y3,h2];simpa [Xr h2]using hv
      rw [this];exact hr
    . rw [if_neg (by omega)]at ht;simp only [Option.getD_none]at ht;subst ht;have:a0.tmps.getD t undef=undef:=by
       have h3: ¬t<vals.size:=by omega
       simp only [a0,Jf,Y3,h3,if_false,Xs];split<;>rfl
      rw [this];exact .bp _ _ _ rfl (by simp)
 have done: ∀a' w',dL E' (mix M s' σ) w' a'->a'.defers=[]/\ ∃v,(results fn a'.tmps).run X.P w'= .ok v w'/\ ∃v',Ending.returned v= .returned v'/\ ∃ro2 own2,own.le own2/\ga ro ro2/\bA E ro2 own2 (lU M s'.en σ) w' a/\Rel ro2 own2 r v':=by
  intro a' w' hsim;obtain⟨ro2,own2,hg2⟩:=hsim;obtain⟨h1,h2,_⟩:=Tx.ki hres;have hM':s'.nx<=M:=hM;have hok:(oa X.P fn.results.toList fun xs=>Tx.done [(.tm 0, .v (oneOf xs))]).ok (mix M s' σ) [(.tm 0, .v r)]:=by
   exact Tx.local _ (fun l hl=>by rw [CO (kQ hM' (mg hRok l (h2 l hl)))]) _ h1
  obtain⟨xs,vs,q1,q2,hws⟩:=ra hg2 hok;have hx:oneOf xs=r:=by
   have:[(Loc.tm 0,Item.v (oneOf xs))]=[(Loc.tm 0,Item.v r)]:=hws;simpa using this
  obtain⟨hle,hro⟩:=hg2.kk;have hs2:bA E ro2 own2 (lU M s'.en σ) w' a:={below:=hg2.below,base:=hg2.base,defs:=hs.defs,size:=hs.size,tm:=fun t sv ht=>(hs.tm t sv ht).mono hro hle,cJ:=hg2.cJ,ee:=hg2.ee,gK:=fun id m hm=>hg2.gK id m hm,fr:=fun id hm=>hg2.fr id hm,mY:=fun id m hm=>hg2.mY id m hm,inj:=fun id id' m m' b e1 e2=>hg2.inj id id' m m' b e1 e2,kk:=E.mono _ _ _ _ hle hro hs.kk,mp:=⟨fun id m n e f h1=>hg2.mp.at_ id m n e f h1,fun id id' m m' b n e f n' e' f' h1=>hg2.mp.inj id id' m m' b n e f n' e' f' h1⟩}
  refine⟨hg2.defs,_,lX q1,_,rfl,ro2,own2,hle,hro,hs2,?_⟩;rw [<-hx];exact q2.one
 refine calls_of_wp e1 e2 ?_;refine hrun E' M σ rfl hM _ a0 w (fun a' w' h'=> ?_) hs0;rcases he with rfl|rfl
 . exact done a' w' h'
 . exact done a' w' h'
theorem V2 (hX:An X) (hm:X.P.follows .mixedOrders=true): ∀(n:Nat) N F c s o,Ry X n N F c s=o->Ab X N c s o:=by
 intro n
 induction n using Nat.strongRecOn with
 |_ n ih=>
  intro N F c s o h;have hev: ∀N F c s o,ev X n N F c s=o->Ab X N c s o:=by
   intro N F c s o h;cases n with
   |zero=>simp only [ev]at h;subst h;intro e s1 hgo;simp [Out.ak]at hgo
   |succ k=>rw [wX]at h;exact ih k (Nat.lt_succ_self _) N F c s o h
  refine Vo hX hm (EB hX hev) (fun c s o h hbody=> ?_) c s o h;refine QG n (fun k hk s2 o2 h2=> ?_) s o h;rcases Nat.lt_or_eq_of_le hk with hlt|he
  . exact ih k hlt N F c s2 o2 h2
  . rw [he]at h2;exact hbody s2 o2 h2
theorem ZR (hX:An X) (hm:X.P.follows .mixedOrders=true) (n:Nat): ∀N F c s o,ev X n N F c s=o->Ab X N c s o:=by
 intro N F c s o h;cases n with
 |zero=>simp only [ev]at h;subst h;intro e s1 hgo;simp [Out.ak]at hgo
 |succ k=>rw [wX]at h;exact V2 hX hm k N F c s o h
theorem HI (hX:An X) (hm:X.P.follows .mixedOrders=true) (n:Nat):nE X (oK X (ev X n)):=EB hX (ZR hX hm n)
end
end Go.Sx
namespace Go.Sx
open Go Go.RowKit
variable [bW]
def Gb (R:SV->SV->Bool):List SV->List SV->Bool
 |[],[]=>true
 |x::r,y::r'=>match R x y with
  |true=>Gb R r r'
  |false=>false
 |_,_=>false
def XM (R:SV->SV->Bool) (f g:Nat->List SV):Nat->Bool
 |0=>true
 |n+1=>match Gb R (f n) (g n)with
  |true=>XM R f g n
  |false=>false
def P9 (R:SV->SV->Bool):List ar->List ar->Bool
 |[],[]=>true
 | .s x::r, .s y::r'=>match R x y with
  |true=>P9 R r r'
  |false=>false
 | .a n es f::r, .a n' es' g::r'=>match Nat.beq n n'&&Nat.beq es es'&&XM R f g n with
  |true=>P9 R r r'
  |false=>false
 |_,_=>false
def OB :Nat->SV->SV->Bool
 |0,_,_=>false
 |d+1,x,y=>match x,y with
  | .int k a, .int k' b=>k==k'&&a==b
  | .tt, .tt=>true
  | .ff, .ff=>true
  | .tt, .bool b=>b
  | .ff, .bool b=> !b
  | .str a, .str b=>a==b
  | .aq, .aq=>true
  | .emp, .emp=>true
  | .km, .km=>true
  | .lG, .lG=>true
  | .pn, .pn=>true
  | .agg l, .agg l'=>P9 (OB d) l l'
  | .bp l, .bp l'=>Gb (OB d) l l'
  | .sy k e lo hi, .sy k' e' lo' hi'=>k==k'&&XE.beq e e'&&decide (lo'<=lo)&&decide (hi<=hi')
  | .tg i, .tg j=>Nat.beq i j
  | .aI es n f, .aI es' n' g=>Nat.beq es es'&&Nat.beq n n'&&XM (OB d) f g n
  |_,_=>false
section
variable {R : SV -> SV -> Bool}
theorem xG : ∀{l l':List SV},Gb R l l'=true->l'.length=l.length/\ ∀(i:Nat) (y:SV),l'[i]?=some y-> ∃x,l[i]?=some x/\R x y=true
 |[],[],_=>⟨rfl,by simp⟩
 |x::r,y::r',h=>by
  simp only [Gb]at h;split at h
  case h_2=>cases h
  rename_i h0;obtain⟨h1,h2⟩:=xG h;refine⟨by simp [h1],fun i z hz=> ?_⟩;cases i with
  |zero=>simp at hz;subst hz;exact⟨x,rfl,h0⟩
  |succ i=>simp at hz;simpa using h2 i z hz
 |[],_::_,h=>by simp [Gb]at h
 |_::_,[],h=>by simp [Gb]at h
theorem C0 {f g:Nat->List SV}: ∀{n:Nat},XM R f g n=true-> ∀i,i<n->Gb R (f i) (g i)=true
 |n+1,h,i,hi=>by
  simp only [XM]at h;split at h
  case h_2=>cases h
  rename_i h0
  by_cases e:i=n
  . subst e;exact h0
  . exact C0 h i (by omega)
theorem zu : ∀{l l':List ar},P9 R l l'=true->aa l'=aa l/\ ∀(k:Nat) (y:SV),flat l' k=some y-> ∃x,flat l k=some x/\R x y=true
 |[],[],_=>⟨rfl,by simp [flat]⟩
 | .s x::r, .s y::r',h=>by
  simp only [P9]at h;split at h
  case h_2=>cases h
  rename_i h0;obtain⟨h1,h2⟩:=zu h;refine⟨by simp [aa,ar.size,h1],fun k z hz=> ?_⟩;cases k with
  |zero=>rw [cC]at hz⊢;simp at hz;subst hz;exact⟨x,rfl,h0⟩
  |succ k=>rw [cB]at hz⊢;exact h2 k z hz
 | .a n es f::r, .a n' es' g::r',h=>by
  simp only [P9]at h;split at h
  case h_2=>cases h
  rename_i h0;simp only [J2]at h0;obtain⟨⟨e1,e2⟩,e3⟩:=h0;have e1:=Jd e1;have e2:=Jd e2;subst e1;subst e2;obtain⟨h1,h2⟩:=zu h;refine⟨by simp [aa,ar.size,h1],fun k z hz=> ?_⟩
  by_cases hlt:k<n*es
  . rw [cy hlt]at hz⊢;have hes:0<es:=by
     rcases Jw es with h0|h0
     . subst h0;simp at hlt
     . exact h0
    exact(xG (C0 e3 (k/es) (by rw [K9 hes];exact hlt))).2 _ z hz
  . rw [gZ hlt]at hz⊢;exact h2 _ z hz
 |[],_::_,h=>by simp [P9]at h
 |_::_,[],h=>by simp [P9]at h
 | .s _::_, .a _ _ _::_,h=>by simp [P9]at h
 | .a _ _ _::_, .s _::_,h=>by simp [P9]at h
end
theorem zy : ∀(d:Nat) {x y:SV},OB d x y=true->oZ x y
 |0,x,y,h=>by simp [OB]at h
 |d+1,x,y,h=>by
  have ih:=fun {x y:SV}=>zy d (x:=x) (y:=y)
  intro ro o v hr;simp only [OB]at h;split at h
  . rename_i k a k' b;simp only [J2,beq_iff_eq]at h;obtain⟨rfl,rfl⟩:=h;exact hr
  . exact hr
  . exact hr
  . subst h;cases hr;exact .bool _ _
  . simp only [Yx]at h;subst h;cases hr;exact .bool _ _
  . rename_i a b;simp only [beq_iff_eq]at h;subst h;exact hr
  . exact hr
  . exact hr
  . exact hr
  . exact hr
  . exact hr
  . rename_i l l';obtain⟨cs,hv,hs,hh⟩:=cU hr;obtain⟨h1,h2⟩:=zu h;rw [hv];refine .agg _ _ _ (by rw [h1];exact hs) fun k z hz=> ?_
    obtain⟨u,hu,he⟩:=h2 k z hz;exact ih he _ _ _ (hh k u hu)
  . rename_i l l';obtain⟨vs,hv,hs,hh⟩:=jt hr;obtain⟨h1,h2⟩:=xG h;rw [hv];refine .bp _ _ _ (by rw [h1];exact hs) fun i z hz=> ?_
    obtain⟨u,hu,he⟩:=h2 i z hz;exact ih he _ _ _ (hh i u hu)
  . rename_i k e lo hi k' e' lo' hi';simp only [J2,beq_iff_eq,decide_eq_true_eq]at h;obtain⟨⟨⟨rfl,h2⟩,h3⟩,h4⟩:=h;have:=XE.fx h2;subst this;cases hr;exact .sy _ _ _ _ _ _ ‹_› (by omega) (by omega)
  . rename_i i j;have:=Jd h;subst this;exact hr
  . rename_i es n f es' n' g;simp only [J2]at h;obtain⟨⟨e1,e2⟩,e3⟩:=h;have e1:=Jd e1;have e2:=Jd e2;subst e1;subst e2;rcases dE hr with⟨hl,A,cap,hv⟩|⟨b,k0,cap,vs,hv,hcap,hl,hm,hh⟩
    . rw [hv];exact .fe _ _ _ _ _ _ hl
    . rw [hv];refine .aI _ _ _ _ _ _ _ vs hcap (fun i hi=>by rw [(xG (C0 e3 i hi)).1];exact hl i hi) hm fun i j z hi hz=> ?_
      obtain⟨u,hu,he⟩:=(xG (C0 e3 i hi)).2 j z hz;exact ih he _ _ _ (hh i j u hi hu)
  . cases h
def nH :Nat:=14
def iZ (args0:List SV) (res0:SV) (args:List SV):Option SV:=match Gb (OB nH) args args0 with
 |true=>some res0
 |false=>none
def partsOf :SV->List SV
 | .bp l=>l
 |x=>[x]
def IY (r:SV) (l:List SV):SV:=match r with
 | .bp _=> .bp l
 |_=>l.headD .any
def OK (c:rV) (res0:SV):Bool:=match c with
 | .ok r s=>match (cn (partsOf r) fun r' ws=> .done [(.tm 0, .v (.bp r'))]).lh ⟨.e,s.en,s.nx,0,[]⟩ []with
  |some (R,[(.tm 0, .v (.bp r'))])=>match nK s.nx R with
   |true=>OB nH (IY r r') res0
   |false=>false
  |_=>false
 | .bad _ _=>false
def yh :cg:=⟨.e, .e,0,0,[]⟩
def cF (X:DX) (fuel f:Nat) (fn:Func) (args0:List SV) (res0:SV):Bool:=OK (oK X (ev X fuel) f fn args0 yh) res0
theorem aQ.weak {ro:RO} {own:Own}: ∀{l l':List SV} {vs:List Value},Gb (OB nH) l l'=true->aQ ro own l vs->aQ ro own l' vs
 |[],[],vs,_,h=>h
 |x::r,y::r',v::vr,he,h=>by
  simp only [Gb]at he;split at he
  case h_2=>cases he
  rename_i h0;exact⟨zy nH h0 _ _ _ h.1,aQ.weak he h.2⟩
 |[],_::_,_,he,_=>by simp [Gb]at he
 |_::_,[],_,he,_=>by simp [Gb]at he
 |_::_,_::_,[],_,h=>h.elim
theorem RC {X:DX} (hX:An X) (hm:X.P.follows .mixedOrders=true) {fuel f:Nat} {fn:Func} (hf:X.I f=some fn) {args0:List SV} {res0:SV} (h:cF X fuel f fn args0 res0=true):cS X.P f fun args=>(iZ args0 res0 args).map fun r=>(True,r):=by
 obtain⟨e1,e2,e3⟩:=hX.I f fn hf;refine⟨⟨fn,e1,by simp [e2],e3⟩,fun args p r hc hp R w vals hR hrel=> ?_⟩;unfold iZ at hc;cases hq:Gb (OB nH) args args0 with
 |false=>rw [hq]at hc;simp at hc
 |true=>
  rw [hq]at hc;simp only [K4,J3,Q4]at hc;obtain⟨rfl,rfl⟩:=hc;have hrel0:=aQ.weak hq hrel;unfold cF OK at h;split at h
  case h_2=>cases h
  rename_i r s1 hrun;split at h
  case h_2=>cases h
  rename_i R2 r' hres;split at h
  case h_2=>cases h
  rename_i hRok;obtain⟨c1,c2,c3,c4⟩:=(HI hX hm fuel).ok f fn args0 yh r s1 hf hrun (fun id e he=>by simp [yh,Trie.YT]at he)
  let E:Env:=⟨w.heap.size,w,R,0,fun _ _=>True,fun _ _ _ _ _ _ _=>trivial⟩
  let a0:Act:={tmps:= #[],defers:=[]}
  let σ:St:=fun
   | .tm _=> .v (.bp [])
   | .mt _=> .m none
   | .sg _ _=> .s (.s .any)
  have hs0:bA E R Own.empty (lU s1.nx yh.en σ) w a0:=by
   have hmt: ∀id,lU s1.nx yh.en σ (.mt id)= .m none:=fun id=>by
    simp only [lU,yh,Trie.YT,σ];split<;>rfl
   refine {below:=Below.refl _ _,base:=J1 _,defs:=rfl,size:=rfl,tm:=fun t sv ht=> ?_,cJ:=hR,ee:=fun _ _ _=>rfl,gK:=fun id m hm=> ?_,fr:=fun _ _ _=>rfl,mY:=fun _ _ _ _ _=>rfl,inj:=fun id id' m m' b hm=> ?_,kk:=trivial,mp:=⟨fun id m _ _ _ hm=> ?_,fun id id' m m' b _ _ _ _ _ _ hm=> ?_⟩}
   . simp only [lU,σ,Item.v.injEq]at ht;subst ht;exact .bp _ _ #[] rfl (by simp)
   . rw [hmt]at hm;cases hm
   . rw [hmt]at hm;cases hm
   . rw [hmt]at hm;cases hm
   . rw [hmt]at hm;cases hm
  refine(c4 E s1.nx σ R Own.empty w a0 vals (J1 _) hs0 hrel0).mono ?_;rintro e w' ⟨v,rfl,ro2,own2,k1,k2,k3,k4⟩;obtain⟨q1,q2,_⟩:=Tx.ki hres;have hok:(cn (partsOf r) fun r' ws=>Tx.done [(.tm 0, .v (.bp r'))]).ok (lU s1.nx s1.en σ) [(.tm 0, .v (.bp r'))]:=by
   refine Tx.local _ (fun l hl=> ?_) _ q1;have hl2:=mg hRok l (q2 l hl);cases l with
   |tm t=>simp only [lU,σ,cg.get,Trie.YT];rfl
   |mt id=>simp only [gF]at hl2;simp only [lU,cg.get];rw [if_pos hl2]
   |sg id q=>simp only [gF]at hl2;simp only [lU,cg.get];rw [if_pos hl2]
  have hparts: ∃vs:List Value,aQ ro2 own2 (partsOf r) vs/\ ∀ro3 r3,aQ ro3 Own.empty r3 vs->r3.length=(partsOf r).length->Rel ro3 Own.empty (IY r r3) v:=by
   cases r
   case bp l=>
    obtain⟨vs,hv,hs,hh⟩:=jt k4;refine⟨vs.toList,aQ.IW (by simpa [partsOf]using hs) (fun i x hx=>by simpa [J0,Jf]using hh i x hx),fun ro3 r3 h3 hl3=> ?_⟩;rw [hv];have hlen:=h3.length;refine .bp _ _ _ (by simpa using hlen.symm) fun i x hx=> ?_
    obtain⟨u,hu,hr⟩:=h3.at i x hx;simpa [Jf,show vs[i]?=some u from by simpa using hu]using hr
   all_goals
    refine⟨[v],⟨k4,trivial⟩,fun ro3 r3 h3 hl3=> ?_⟩
    match r3,h3 with
    |[x],h3=>exact h3.1
  obtain⟨vs,hvs,hback⟩:=hparts;obtain⟨xs2,ws2,ro3,hk2,hle3,hs3,hr3⟩:=iw (s:=lU s1.nx s1.en σ) ⟨fun _ _=>rfl,fun _=> .inl rfl⟩ k3 hvs hok;have hx:xs2=r':=by
   have:[(Loc.tm 0,Item.v (.bp xs2))]=[(Loc.tm 0,Item.v (.bp r'))]:=hk2;simpa using this
  subst hx;have hlen:xs2.length=(partsOf r).length:=by rw [hr3.length,hvs.length]
  refine⟨v,ro3,rfl,zy nH h _ _ _ (hback ro3 xs2 hr3 hlen),k2.trans hle3,hs3.cJ,hs3.ee,hs3.below⟩
end Go.Sx
namespace Go.Sx
open Go Go.RowKit
variable [bW]
def eE (R:SV->SV):ar->ar
 | .s v=> .s (R v)
 | .a n es f=> .a n es fun i=>(f i).map R
def iF :Nat->SV->SV
 |0,x=>x
 |d+1,x=>match x with
  | .sy k e _ _=> .int k e.den
  | .tg i=>bW.tag i
  | .agg l=> .agg (l.map (eE (iF d)))
  | .bp l=> .bp (l.map (iF d))
  | .aI es n f=> .aI es n fun i=>(f i).map (iF d)
  |x=>x
theorem kg (R:SV->SV): ∀l:List ar,aa (l.map (eE R))=aa l
 |[]=>rfl
 | .s v::r=>by simp only [J8,eE,aa,ar.size,kg R r]
 | .a n es f::r=>by simp only [J8,eE,aa,ar.size,kg R r]
theorem oJ (R:SV->SV): ∀{l:List ar} {k:Nat} {sv:SV},flat (l.map (eE R)) k=some sv-> ∃u,flat l k=some u/\sv=R u
 |[],_,_,h=>by cases h
 | .s v::r,k,sv,h=>by
  simp only [J8,eE]at h;cases k with
  |zero=>rw [cC]at h;cases h;exact⟨v,by rw [cC],rfl⟩
  |succ k=>rw [cB]at h;rw [cB];exact oJ R h
 | .a n es f::r,k,sv,h=>by
  simp only [J8,eE]at h
  by_cases hlt:k<n*es
  . rw [cy hlt]at h⊢;rw [J5,Jp]at h;obtain⟨u,h1,h2⟩:=h;exact⟨u,h1,h2.symm⟩
  . rw [gZ hlt]at h⊢;exact oJ R h
theorem xz : ∀(d:Nat) (x:SV),oZ x (iF d x)
 |0,x=>oZ.refl x
 |d+1,x=>by
  have ih:=xz d;intro ro o v h;cases x
  case sy k e lo hi=>cases h;subst_vars;exact .int _ _ _
  case tg i=>cases h;rename_i h;exact h.own (Own.empty_le _)
  case agg l=>
   obtain⟨cs,hv,hs,hh⟩:=cU h;rw [hv];refine .agg _ _ _ (by rw [kg];exact hs) fun k sv hk=> ?_
   obtain⟨u,h1,rfl⟩:=oJ _ hk;exact ih u _ _ _ (hh k u h1)
  case bp l=>
   obtain⟨vs,hv,hs,hh⟩:=jt h;rw [hv];refine .bp _ _ _ (by simpa using hs) fun i sv hi=> ?_
   rw [J5,Jp]at hi;obtain⟨u,h1,rfl⟩:=hi;exact ih u _ _ _ (hh i u h1)
  case aI es n f=>
   rcases dE h with⟨hl,A,cap,hv⟩|⟨b,k0,cap,vs,hv,hcap,hl,hm,hh⟩
   . rw [hv];exact .fe _ _ _ _ _ _ hl
   . rw [hv];refine .aI _ _ _ _ _ _ _ vs hcap (fun i hi=>by rw [Qj];exact hl i hi) hm fun i j sv hi hj=> ?_
     rw [J5,Jp]at hj;obtain⟨u,h1,rfl⟩:=hj;exact ih u _ _ _ (hh i j u hi h1)
  all_goals exact h
theorem aQ.den {ro:RO} {own:Own} (d:Nat): ∀{l:List SV} {vs:List Value},aQ ro own l vs->aQ ro own (l.map (iF d)) vs
 |[],[],h=>h
 |x::r,v::vr,h=>⟨xz d x _ _ _ h.1,aQ.den d h.2⟩
 |[],_::_,h=>h.elim
 |_::_,[],h=>h.elim
theorem nu {P:Program} {f:Nat} {c:bB} (hc:nh P f c) (d:Nat) {args0:List SV} {res0 r:SV} {p:Prop} (h:c (args0.map (iF d))=some (p,r)) (hp:p) (hpl:od r=true) (hr:oZ r res0):cS P f fun args=>(iZ args0 res0 args).map fun r=>(True,r):=by
 refine⟨hc.fn,fun args p' r' hc' hp' R w vals hR hrel=> ?_⟩;unfold iZ at hc';cases hq:Gb (OB nH) args args0 with
 |false=>rw [hq]at hc';simp at hc'
 |true=>
  rw [hq]at hc';simp only [K4,J3,Q4]at hc';obtain⟨rfl,rfl⟩:=hc';have hrel0:=(aQ.weak hq hrel).den d;refine(hc.calls _ p r h hp R w vals hR hrel0).mono ?_;rintro e w' ⟨v,ro2,k1,k2,k3⟩;exact⟨v,ro2,k1,hr _ _ _ (k2.plain hpl),k3⟩
theorem uw {i:Nat} {r:SV} (h:bW.tag i=r) (hc:fM r=true):oZ r (.tg i):=fun ro o v hr=> .tg _ _ _ (by rw [h];exact iq hr hc)
abbrev Pu :=List (List SV×SV)
def zw :Pu->List SV->Option SV
 |[],_=>none
 |p::r,args=>match iZ p.1 p.2 args with
  |some x=>some x
  |none=>zw r args
def orD (l:Pu) (d:Option (List SV->Option SV)):Option (List SV->Option SV):=match l with
 |[]=>d
 |_::_=>match d with
  |none=>some (zw l)
  |some g=>some fun args=>match zw l args with
   |some x=>some x
   |none=>g args
def jq (f:Nat):List (Nat×List SV×SV)->Pu
 |[]=>[]
 |(g,a,r)::l=>match Nat.beq g f with
  |true=>(a,r)::jq f l
  |false=>jq f l
def DX.more (X:DX) (l:List (Nat×List SV×SV)):DX:=⟨X.P,X.I,fun f=>orD (jq f l) (X.D f),X.H⟩
def Fact (P:Program) (f:Nat) (args0:List SV) (res0:SV):Prop:=cS P f fun args=>(iZ args0 res0 args).map fun r=>(True,r)
inductive A8 (P : Program) : List (Nat × List SV × SV) -> Prop
 | nil : A8 P []
 | cons {f a r l} : Fact P f a r -> A8 P l -> A8 P ((f, a, r) :: l)
theorem A8.app {P:Program}: ∀{l m:List (Nat×List SV×SV)},A8 P l->A8 P m->A8 P (l++m)
 |[],_,_,h=>h
 |_::_,_, .cons h1 h2,h=> .cons h1 (h2.app h)
theorem FI {P:Program} {f:Nat} {a:List SV} {r:SV} {g:List SV->Option SV} (h:Fact P f a r) (hg:cS P f fun args=>(g args).map fun r=>(True,r)):
 cS P f fun args=>(match iZ a r args with|some x=>some x|none=>g args).map fun r=>(True,r):=by
 refine⟨h.fn,fun args p r' hc hp R w vals hR hrel=> ?_⟩;cases hm:iZ a r args with
 |some x=>
  rw [hm]at hc;exact h.calls args p r' (by rw [hm];exact hc) hp R w vals hR hrel
 |none=>
  rw [hm]at hc;exact hg.calls args p r' hc hp R w vals hR hrel
theorem Hk {P:Program} {f:Nat} {a:List SV} {r:SV} (h:Fact P f a r):cS P f fun args=>(match iZ a r args with|some x=>some x|none=>none).map fun r=>(True,r):=by
 refine⟨h.fn,fun args p r' hc hp R w vals hR hrel=> ?_⟩;cases hm:iZ a r args with
 |some x=>
  rw [hm]at hc;exact h.calls args p r' (by rw [hm];exact hc) hp R w vals hR hrel
 |none=>rw [hm]at hc;cases hc
theorem xy {P:Program} (f:Nat): ∀{l:List (Nat×List SV×SV)},A8 P l->(∀g:List SV->Option SV,cS P f (fun args=>(g args).map fun r=>(True,r))->cS P f fun args=>(match zw (jq f l) args with|some x=>some x|none=>g args).map fun r=>(True,r))/\
 (jq f l≠[]->cS P f fun args=>(zw (jq f l) args).map fun r=>(True,r))
 |[],_=>⟨fun g hg=>by simpa [jq,zw]using hg,fun h=>absurd rfl h⟩
 |(k,a,r)::l, .cons h1 h2=>by
  obtain⟨ih1,ih2⟩:=xy f h2;simp only [jq];cases hb:Nat.beq k f with
  |false=>exact⟨ih1,ih2⟩
  |true=>
   have hk:=Jd hb;subst hk;simp only [zw];refine⟨fun g hg=> ?_,fun _=> ?_⟩
   . have:=FI h1 (ih1 g hg);refine⟨this.fn,fun args p r' hc hp R w vals hR hrel=>this.calls args p r' ?_ hp R w vals hR hrel⟩;rw [<-hc];cases iZ a r args<;>rfl
   . cases hl:jq k l with
     |nil=>
      have:=Hk h1;refine⟨this.fn,fun args p r' hc hp R w vals hR hrel=>this.calls args p r' ?_ hp R w vals hR hrel⟩;rw [<-hc];cases iZ a r args<;>rfl
     |cons x y=>
      have h3:=ih2 (by rw [hl];simp);rw [hl]at h3;exact FI h1 h3
theorem An.more {X:DX} (hX:An X) {l:List (Nat×List SV×SV)} (h:A8 X.P l):An (X.more l):=by
 refine⟨hX.I,fun f d hd=> ?_,hX.H⟩
 change orD (jq f l) (X.D f)=some d at hd
 obtain⟨h1,h2⟩:=xy f h;unfold orD at hd;split at hd
 . exact hX.D f d hd
 . rename_i x y hl;split at hd
   . cases hd;exact h2 (by rw [hl];simp)
   . rename_i g hg;cases hd;exact h1 g (hX.D f g hg)
theorem au {X:DX} (hX:An X) (hm:X.P.follows .mixedOrders=true) {fuel f:Nat} {fn:Func} (hf:X.I f=some fn) {args0:List SV} {res0:SV} (h:cF X fuel f fn args0 res0=true):Fact X.P f args0 res0:=RC hX hm hf h
end Go.Sx
namespace Go.Sx
open Go Go.RowKit
def zf :Nat->SV->Prop
 |0,_=>False
 |d+1,x=>match x with
  | .sy _ _ _ _| .tg _| .rA _ _ _ _ _| .fn _ _ _| .Gl _ _ _ _=>False
  | .agg l=> ∀k sv,flat l k=some sv->zf d sv
  | .bp l=> ∀(i:Nat) (sv:SV),l[i]?=some sv->zf d sv
  | .aI _ n f=> ∀(i:Nat),i<n-> ∀(j:Nat) (sv:SV),(f i)[j]?=some sv->zf d sv
  |_=>True
theorem yG (R1 R0:bW): ∀(d:Nat) (x:SV),zf d x-> ∀(ro:RO) (o:Own) (v:Value), @Rel R1 ro o x v-> @Rel R0 ro o x v
 |0,_,h,_,_,_,_=>h.elim
 |d+1,x,h,ro,o,v,hr=>by
  have ih:=yG R1 R0 d;cases hr with
  |any=>exact @Rel.any R0 _ _ _
  |bool=>exact @Rel.bool R0 _ _ _
  |tt=>exact @Rel.tt R0 _ _
  |ff=>exact @Rel.ff R0 _ _
  |int=>exact @Rel.int R0 _ _ _ _
  |str=>exact @Rel.str R0 _ _ _
  |aq=>exact @Rel.aq R0 _ _
  |agg o' l cs hs hh=>exact @Rel.agg R0 _ _ _ _ hs fun k sv hk=>ih sv (h k sv hk) _ _ _ (hh k sv hk)
  |bp o' l vs hs hh=>exact @Rel.bp R0 _ _ _ _ hs fun i sv hi=>ih sv (h i sv hi) _ _ _ (hh i sv hi)
  |ptr o' id q b h1=>exact @Rel.ptr R0 _ _ _ _ _ h1
  |su o' id aD q i j b h1=>exact @Rel.su R0 _ _ _ _ _ _ _ _ h1
  |sl o' id aD off len b h1 hc=>exact @Rel.sl R0 _ _ _ _ _ _ _ h1 hc
  |Es o' id aD off len h1 hl h0=>exact @Rel.Es R0 _ _ _ _ _ _ h1 hl h0
  |fe o' es len f a cap h1=>exact @Rel.fe R0 _ _ _ _ _ _ _ h1
  |aI o' es len f b k0 cap vs hc hl hm hh=>exact @Rel.aI R0 _ _ _ _ _ _ _ _ vs hc hl hm fun i j sv hi hj=>ih sv (h i hi j sv hj) _ _ _ (hh i j sv hi hj)
  |rA=>exact h.elim
  |fn=>exact h.elim
  |DG o' v h1=>exact @Rel.DG R0 _ _ _ h1
  |emp o' A=>exact @Rel.emp R0 _ _ _
  |z9 o' id b h1=>exact @Rel.z9 R0 _ _ _ _ h1
  |km=>exact @Rel.km R0 _ _
  |lG=>exact @Rel.lG R0 _ _
  |pn=>exact @Rel.pn R0 _ _
  |sy=>exact h.elim
  |tg=>exact h.elim
def Od (d:Nat):List SV->Prop
 |[]=>True
 |x::r=>zf d x/\Od d r
theorem Bl (R1 R0:bW) (d:Nat) {ro:RO} {o:Own}: ∀{l:List SV} {vs:List Value},Od d l-> @aQ R1 ro o l vs-> @aQ R0 ro o l vs
 |[],[],_,_=>trivial
 |x::r,v::vr,hp,h=>⟨yG R1 R0 d x hp.1 _ _ _ h.1,Bl R1 R0 d hp.2 h.2⟩
 |[],_::_,_,h=>h.elim
 |_::_,[],_,h=>h.elim
section
variable [bW]
theorem mC (R:SV->SV): ∀{l:List ar} {k:Nat} {u:SV},flat l k=some u->flat (l.map (eE R)) k=some (R u)
 |[],_,_,h=>by cases h
 | .s v::r,k,u,h=>by
  simp only [J8,eE];cases k with
  |zero=>rw [cC]at h⊢;cases h;rfl
  |succ k=>rw [cB]at h⊢;exact mC R h
 | .a n es f::r,k,u,h=>by
  simp only [J8,eE]
  by_cases hlt:k<n*es
  . rw [cy hlt]at h⊢;rw [J5,h];rfl
  . rw [gZ hlt]at h⊢;exact mC R h
def Rq :Nat->SV->Prop
 |0,x=>True
 |d+1,x=>match x with
  | .sy _ e lo hi=>lo<=e.den/\e.den<=hi
  | .tg _=>False
  | .agg l=> ∀k sv,flat l k=some sv->Rq d sv
  | .bp l=> ∀(i:Nat) (sv:SV),l[i]?=some sv->Rq d sv
  | .aI _ n f=> ∀(i:Nat),i<n-> ∀(j:Nat) (sv:SV),(f i)[j]?=some sv->Rq d sv
  |_=>True
theorem Fg : ∀(d:Nat) (x:SV),Rq d x->oZ (iF d x) x
 |0,x,_=>oZ.refl x
 |d+1,x,hb=>by
  have ih:=Fg d;intro ro o v h;cases x
  case sy k e lo hi=>
   have:v= .int k e.den:=aK h;rw [this];exact .sy _ _ _ _ _ _ rfl hb.1 hb.2
  case tg i=>exact hb.elim
  case agg l=>
   obtain⟨cs,hv,hs,hh⟩:=cU h;rw [hv];exact .agg _ _ _ (by rw [<-kg (iF d)];exact hs) fun k sv hk=>ih sv (hb k sv hk) _ _ _ (hh k _ (mC _ hk))
  case bp l=>
   obtain⟨vs,hv,hs,hh⟩:=jt h;rw [hv];exact .bp _ _ _ (by simpa using hs) fun i sv hi=>ih sv (hb i sv hi) _ _ _ (hh i _ (by rw [J5,hi];rfl))
  case aI es n f=>
   rcases dE h with⟨hl,A,cap,hv⟩|⟨b,k0,cap,vs,hv,hcap,hl,hm,hh⟩
   . rw [hv];exact .fe _ _ _ _ _ _ hl
   . rw [hv];refine .aI _ _ _ _ _ _ _ vs hcap (fun i hi=>by have:=hl i hi;simpa using this) hm fun i j sv hi hj=> ?_
     exact ih sv (hb i hi j sv hj) _ _ _ (hh i j _ hi (by rw [J5,hj];rfl))
  all_goals exact h
def Ls (d:Nat):List SV->Prop
 |[]=>True
 |x::r=>Rq d x/\Ls d r
theorem aQ.und {ro:RO} {own:Own} (d:Nat): ∀{l:List SV} {vs:List Value},Ls d l->aQ ro own (l.map (iF d)) vs->aQ ro own l vs
 |[],[],_,h=>h
 |x::r,v::vr,hb,h=>⟨Fg d x hb.1 _ _ _ h.1,aQ.und d hb.2 h.2⟩
 |[],_::_,_,h=>h.elim
 |_::_,[],_,h=>h.elim
end
def Oc [bW] (P:Program) (f:Nat) (args:List SV) (res:SV):Prop:= ∀(R:RO) (w:World) (vals:Array Value),(∀b o v,R b o=some v->eb w b o v)->aQ R Own.empty args vals.toList->
 Calls P f vals w fun e w'=> ∃v R',e= .returned v/\Rel R' Own.empty res v/\ga R R'/\(∀b o v,R' b o=some v->eb w' b o v)/\(∀b o,b<w.heap.size->R' b o=R b o)/\Below w.heap.size w w'
theorem KO (R1 R0:bW) {P:Program} {f:Nat} {args0:List SV} {res0:SV} (d:Nat) (h: @Fact R1 P f args0 res0) (he:Gb (OB nH) args0 args0=true) {args:List SV} {res:SV} (ha:args=args0.map (@iF R1 d)) (hr:res= @iF R1 d res0) (hb: @Ls R1 d args0) (hpa:Od d args) (hpr:zf d res): @Oc R0 P f args res:=by
 intro R w vals hR hrel;have h1: @aQ R1 R Own.empty args vals.toList:=Bl R0 R1 d hpa hrel;rw [ha]at h1;have h2:= @aQ.und R1 R Own.empty d args0 vals.toList hb h1;have h3:= @cS.calls R1 P f _ h args0 True res0 (by unfold iZ;rw [he];rfl) trivial R w vals hR h2;refine h3.mono ?_;rintro e w' ⟨v,R',k1,k2,k3⟩;have k4: @Rel R1 R' Own.empty res v:=by
  rw [hr];exact @xz R1 d res0 R' Own.empty v k2
 exact⟨v,R',k1,yG R1 R0 d res hpr R' Own.empty v k4,k3⟩
end Go.Sx
namespace Go.Sx
open Go Go.RowKit
def mO (P:SV->Prop):List SV->Prop
 |[]=>True
 |x::r=>P x/\mO P r
def wI (P:SV->Prop) (f:Nat->List SV):Nat->Prop
 |0=>True
 |n+1=>mO P (f n)/\wI P f n
def wK (P:SV->Prop):List ar->Prop
 |[]=>True
 | .s v::r=>P v/\wK P r
 | .a n _ f::r=>wI P f n/\wK P r
theorem mQ {P:SV->Prop}: ∀{l:List SV},mO P l-> ∀{i:Nat} {x:SV},l[i]?=some x->P x
 |[],_,_,_,h=>by simp at h
 |y::r,h,0,x,hx=>by simp at hx;subst hx;exact h.1
 |y::r,h,i+1,x,hx=>by simp at hx;exact mQ h.2 hx
theorem xb {P:SV->Prop} {f:Nat->List SV}: ∀{n:Nat},wI P f n-> ∀{i:Nat},i<n->mO P (f i)
 |n+1,h,i,hi=>by
  by_cases e:i=n
  . subst e;exact h.1
  . exact xb h.2 (by omega)
theorem wW [bW] {P:SV->Prop}: ∀{l:List ar},wK P l-> ∀{k:Nat} {x:SV},flat l k=some x->P x
 |[],_,_,_,h=>by cases h
 | .s v::r,h,0,x,hx=>by rw [cC]at hx;cases hx;exact h.1
 | .s v::r,h,k+1,x,hx=>by rw [cB]at hx;exact wW h.2 hx
 | .a n es f::r,h,k,x,hx=>by
  by_cases hlt:k<n*es
  . rw [cy hlt]at hx;have hes:0<es:=by
     rcases Jw es with h0|h0
     . subst h0;simp at hlt
     . exact h0
    exact mQ (xb h.1 (by rw [K9 hes];exact hlt)) hx
  . rw [gZ hlt]at hx;exact wW h.2 hx
def oS :Nat->SV->Prop
 |0,_=>False
 |d+1,x=>match x with
  | .sy _ _ _ _| .tg _| .rA _ _ _ _ _| .fn _ _ _| .Gl _ _ _ _=>False
  | .agg l=>wK (oS d) l
  | .bp l=>mO (oS d) l
  | .aI _ n f=>wI (oS d) f n
  |_=>True
theorem oc [bW]: ∀{d:Nat} {x:SV},oS d x->zf d x
 |0,_,h=>h
 |d+1,x,h=>by
  cases x
  case agg l=>exact fun k sv hk=>oc (wW h hk)
  case bp l=>exact fun i sv hi=>oc (mQ h hi)
  case aI es n f=>exact fun i hi j sv hj=>oc (mQ (xb h hi) hj)
  all_goals exact h
def G0 [bW]:Nat->SV->Prop
 |0,_=>True
 |d+1,x=>match x with
  | .sy _ e lo hi=>lo<=e.den/\e.den<=hi
  | .tg _=>False
  | .agg l=>wK (G0 d) l
  | .bp l=>mO (G0 d) l
  | .aI _ n f=>wI (G0 d) f n
  |_=>True
theorem vh [bW]: ∀{d:Nat} {x:SV},G0 d x->Rq d x
 |0,_,_=>trivial
 |d+1,x,h=>by
  cases x
  case agg l=>exact fun k sv hk=>vh (wW h hk)
  case bp l=>exact fun i sv hi=>vh (mQ h hi)
  case aI es n f=>exact fun i hi j sv hj=>vh (mQ (xb h hi) hj)
  all_goals exact h
end Go.Sx
namespace Go.Sx
open Go Go.RowKit
variable [bW]
def Pb {α:Type} (S:iR α):Prop:= ∀a,∃q,S.dec (S.enc a)=some (q,a)/\q
def dF {α:Type} (S:iR α) (preB:α->Bool) (res:α->SV) (args:List SV):Option SV:=match S.dec args with
 |some (_,a)=>match Gb (OB nH) args (S.enc a)with
  |true=>match preB a with
   |true=>some (res a)
   |false=>none
  |false=>none
 |none=>none
theorem eQ {α:Type} {S:iR α} {preB:α->Bool} {pre:α->Prop} {res:α->SV} {P:Program} {f:Nat} (hc:nh P f (fl S.dec pre res)) (hs:Pb S) (hpre: ∀a,preB a=true->pre a) (hpl: ∀a,od (res a)=true):cS P f fun args=>(dF S preB res args).map fun r=>(True,r):=by
 refine⟨hc.fn,fun args p' r' hc' hp' R w vals hR hrel=> ?_⟩;unfold dF at hc';split at hc'
 case h_2=>cases hc'
 rename_i q a hd;split at hc'
 case h_2=>cases hc'
 rename_i he;split at hc'
 case h_2=>cases hc'
 rename_i hb;simp only [K4,J3,Q4]at hc';obtain⟨rfl,rfl⟩:=hc';obtain⟨q',h1,h2⟩:=hs a;have hrel0:=aQ.weak he hrel;have hca:fl S.dec pre res (S.enc a)=some (q'/\pre a,res a):=by
  unfold fl;rw [kJ,h1]
 refine(hc.calls _ _ (res a) hca ⟨h2,hpre a hb⟩ R w vals hR hrel0).mono ?_;rintro e w' ⟨v,ro2,k1,k2,k3⟩;exact⟨v,ro2,k1,k2.plain (hpl a),k3⟩
def Fc {α:Type} (A:Arg α):Prop:= ∀a,∃q,A.dec (A.enc a)=some (q,a)/\q
theorem cx {α:Type} {A:Arg α} (h:Fc A):Pb (iR.one A):=fun a=>h a
theorem fJ {α:Type} (C:wN α):Fc (zN C):=fun l=>by
 refine⟨HB C l.length fun i=>C.enc (l.getD i C.qW),?_,fun i _=>⟨by rw [C.self];rfl,C.kW _⟩⟩;show(match Nat.beq C.n C.n with
  |true=>some (HB C l.length (fun i=>C.enc (l.getD i C.qW)),ah C l.length fun i=>C.enc (l.getD i C.qW))
  |false=>none)=_
 rw [show Nat.beq C.n C.n=true from Yz _,iJ rfl]
theorem cV {α β:Type} {A:Arg α} {S:iR β} (h:Fc A) (k:Pb S):Pb (iR.cons A S):=fun a=>by
 obtain⟨q,h1,h2⟩:=h a.1;obtain⟨r,k1,k2⟩:=k a.2;refine⟨q/\r,?_,h2,k2⟩;show(match A.dec (A.enc a.1)with
  |some (p,x)=>(match S.dec (S.enc a.2)with
   |some (q,b)=>some (p/\q,(x,b))
   |none=>none)
  |none=>none)=_
 rw [h1,k1]
theorem KT (l:List SV):aV (l.map .s)=some l:=by
 induction l with
 |nil=>rfl
 |cons x r ih=>simp [aV,ih]
theorem b7 {α:Type} (C:wN α):Fc (argA C):=fun a=>by
 refine⟨C.ak (C.enc a),?_,C.kW a⟩;show oB (aV ((C.enc a).map .s)) (fun cs=>oB (C.dec cs) fun a=>some (C.ak cs,a))=_
 rw [KT];show oB (C.dec (C.enc a)) (fun b=>some (C.ak (C.enc a),b))=_
 rw [C.self];rfl
theorem B7 (ik:IntKind):Fc (DN ik):=fun a=>⟨True,by
 show oB (rI ik (.int ik a)) (fun a=>some (True,a))=_
 rw [oI];rfl,trivial⟩
def Lv (bT:Nat):Own:=⟨fun id v=>match id,v with
 |0,0=>some (some bT)
 |_,_=>none,fun _ _=>0,fun _ q=>q,fun _ _=>1⟩
def Cb (tm cells:List SV):bg:=⟨tm,[(⟨0,false,false,none,cells.length,0,cells.map fun _=>none⟩,cells.map .s)]⟩
theorem KI (tm cells:List SV):St.az (Cb tm cells).get 0 cells.length=cells.map .s:=by
 refine List.ext_getElem (by simp [St.az]) fun i h1 h2=> ?_
 simp only [Qj]at h2;simp [St.az,St.uC,bg.get,Cb,h2]
theorem HJ (cells:List SV):aa (cells.map .s)=cells.length:=by
 induction cells with
 |nil=>rfl
 |cons x r ih=>simp only [J8,aa,ar.size,Jc,ih];omega
theorem Vz (cells:List SV): ∀k,flat (cells.map .s) k=cells[k]?:=by
 induction cells with
 |nil=>intro k;rfl
 |cons x r ih=>
  intro k;cases k with
  |zero=>simp [flat,ar.size,ar.at]
  |succ k=>simp [flat,ar.size,ih]
theorem GG {N:Nat} {w W:World} {tmps:Array Value} {tm cells:List SV} {vs:Array Value} {ty:TypeId} {bT lo hi:Nat} {ro:RO} (hlh:hi<=lo\/cells.length<=lo) (hB:Below w.heap.size w W) (hlow:w.heap.size<=bT)
 (hro: ∀b o v,ro b o=some v->eb W b o v/\w.heap.size<=b/\b≠bT) (hblk:W.heap[bT]?=some (.cells vs ty (lo,hi))) (hN:tmps.size=N)
 (htm: ∀t sv,tm[t]?=some sv->Rel ro (Lv bT) sv (tmps.getD t undef)) (hlen:vs.size=cells.length) (hcell: ∀k sv,cells[k]?=some sv->Rel ro (Lv bT) sv (vs.getD k undef)):
 dL ⟨w.heap.size,w,fun _ _=>none,N,fun _ _=>True,fun _ _ _ _ _ _ _=>trivial⟩ (Cb tm cells).get W ⟨tmps,[]⟩:=by
 have hm0: ∀id m,(Cb tm cells).get (.mt id)= .m (some m)->id=0/\m=⟨0,false,false,none,cells.length,0,cells.map fun _=>none⟩:=by
  intro id m h;cases id with
  |zero=>simp [Cb,bg.get]at h;exact⟨rfl,h.symm⟩
  |succ id=>simp [Cb,bg.get]at h
 refine⟨ro,Lv bT,{below:=hB,base:=hB.size,defs:=rfl,size:=hN,tm:= ?_,cJ:=fun b o v h=>(hro b o v h).1,ee:= ?_,gK:= ?_,fr:= ?_,mY:= ?_,inj:= ?_,kk:=trivial,mp:=⟨?_,?_⟩}⟩
 . intro t sv ht;simp only [bg.get,Cb,Item.v.injEq]at ht
   by_cases h:t<tm.length
   . refine htm t sv ?_;rw [J0,J4 h]at ht;rw [J4 h,<-ht];rfl
   . rw [J0,J7 (by omega)]at ht;simp at ht;subst ht;exact .any _ _
 . intro b o hb;cases h:ro b o with
   |none=>rfl
   |some v=>have:=(hro b o v h).2.1;simp at hb;omega
 . intro id m hm;obtain⟨rfl,rfl⟩:=hm0 id m hm;show TZ _ _ _ (St.az (Cb tm cells).get 0 cells.length) _ _ _
   rw [KI];refine {st:= ?_,es:= ?_,row:=(fun h=>by cases h),plain:=fun _=>⟨rfl,?_⟩,there:=⟨_,rfl⟩,nil:=(fun h=>by cases h),live:= ?_,dn:=(fun _ _ h=>by cases h)}
   . intro q hq;rw [<-List.map_take,HJ];simp only [Lv,Kj]at hq⊢;omega
   . intro q x hx;rw [J5,Jp]at hx;obtain⟨y,_,rfl⟩:=hx;rfl
   . rw [List.map_map];rfl
   . intro b hb _;cases hb;refine {low:=hlow,apart:=fun o=> ?_,body:=⟨vs,ty,lo,hi,hblk,by rw [HJ];exact hlh,(fun t ht=>by cases ht),by rw [HJ,hlen];exact J1 _,fun k sv hk=>hcell k sv (by rw [Vz]at hk;exact hk),fun _=>by rw [HJ,hlen],(fun h=>by cases h)⟩};cases h:ro bT o with
     |none=>rfl
     |some v=>exact absurd rfl (hro bT o v h).2.2
 . intro id h aD;cases id with
   |zero=>simp [Cb,bg.get]at h
   |succ id=>rfl
 . intro id m hm aD hv;obtain⟨rfl,rfl⟩:=hm0 id m hm;cases aD with
   |zero=>exact absurd hv (Nat.lt_irrefl 0)
   |succ v=>rfl
 . intro id id' m m' b hm hm' _ _ _ _;rw [(hm0 id m hm).1,(hm0 id' m' hm').1]
 . intro id m n e f hm hk;obtain⟨rfl,rfl⟩:=hm0 id m hm;cases hk
 . intro id id' m m' b n e f n' e' f' hm hm' hk;obtain⟨rfl,rfl⟩:=hm0 id m hm;cases hk
theorem RX {N:Nat} {w W:World} {tmps:Array Value} {tm cells:List SV} {vs:Array Value} {ty:TypeId} {bT:Nat} {ro:RO} (hB:Below w.heap.size w W) (hlow:w.heap.size<=bT)
 (hro: ∀b o v,ro b o=some v->eb W b o v/\w.heap.size<=b/\b≠bT) (hblk:W.heap[bT]?=some (.cells vs ty (0,0))) (hN:tmps.size=N)
 (htm: ∀t sv,tm[t]?=some sv->Rel ro (Lv bT) sv (tmps.getD t undef)) (hlen:vs.size=cells.length) (hcell: ∀k sv,cells[k]?=some sv->Rel ro (Lv bT) sv (vs.getD k undef)):
 dL ⟨w.heap.size,w,fun _ _=>none,N,fun _ _=>True,fun _ _ _ _ _ _ _=>trivial⟩ (Cb tm cells).get W ⟨tmps,[]⟩:=
 GG (.inl (J1 _)) hB hlow hro hblk hN htm hlen hcell
theorem Ii {ro:RO} {o:Own} {b:Nat} {svs:List SV} {vals:List Value} (hro: ∀k,k<vals.length->ro b k=vals[k]?) (h:aQ ro Own.empty svs vals):Rel ro o (.rA svs.length 1 (fun _=>svs) 0 0) (.pointer (some ⟨b,0,none⟩)):=by
 have hl:=h.length;have e:(⟨b,0+0*svs.length+0,none⟩:Addr)=⟨b,0,none⟩:=by simp
 rw [<-e];refine .rA o svs.length 1 (fun _=>svs) 0 0 b 0 (fun k=>vals.getD k undef) (fun _ _=>rfl) (fun k hk=> ?_) (fun i j sv hi hj=> ?_) Nat.zero_lt_one
 . have hk':k<vals.length:=by omega
   rw [Jg,hro k hk',J0,J4 hk'];rfl
 . obtain rfl:i=0:=by omega
   obtain⟨v,hv,hr⟩:=h.at j sv hj;rw [Yy,Jg,J0,hv];exact hr
theorem I0 {ro:RO} {o:Own} {b cap:Nat} {svs:List SV} {vals:List Value} (hc:1<=cap) (hro: ∀k,k<vals.length->ro b k=vals[k]?) (h:aQ ro Own.empty svs vals):Rel ro o (.aI svs.length 1 (fun _=>svs)) (.slice (some ⟨b,0,none⟩) 1 cap):=by
 have hl:=h.length;refine .aI _ _ _ _ b 0 cap (fun k=>vals.getD k undef) hc (fun _ _=>rfl) (fun k hk=> ?_) (fun i j sv hi hj=> ?_)
 . have hk':k<vals.length:=by omega
   rw [Jg,hro k hk',J0,J4 hk'];rfl
 . obtain rfl:i=0:=by omega
   obtain⟨v,hv,hr⟩:=h.at j sv hj;rw [Yy,Jg,J0,hv];exact hr
end Go.Sx
