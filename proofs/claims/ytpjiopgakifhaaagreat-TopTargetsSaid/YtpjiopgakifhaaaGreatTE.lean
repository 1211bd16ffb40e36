import Derived.Test.YtpjiopgakifhaaaGreatTD
import Derived.MapKept
set_option linter.unusedSectionVars false
set_option linter.unusedSimpArgs false
set_option linter.unusedVariables false
set_option maxRecDepth 100000
namespace Go.Sx
open Go Go.RowKit
variable [bW]
def XE.beq :XE->XE->Bool
 | .v i, .v j=>Nat.beq i j
 | .c n, .c m=>n==m
 | .add a b, .add x y=>match XE.beq a x with|true=>XE.beq b y|false=>false
 | .sub a b, .sub x y=>match XE.beq a x with|true=>XE.beq b y|false=>false
 | .mul a b, .mul x y=>match XE.beq a x with|true=>XE.beq b y|false=>false
 | .quo a b, .quo x y=>match XE.beq a x with|true=>XE.beq b y|false=>false
 | .mn a b, .mn x y=>match XE.beq a x with|true=>XE.beq b y|false=>false
 | .mx a b, .mx x y=>match XE.beq a x with|true=>XE.beq b y|false=>false
 |_,_=>false
theorem XE.fx : ∀{a b:XE},XE.beq a b=true->a=b
 | .v i,b,h=>by
  cases b<;>simp [XE.beq]at h
  subst h;rfl
 | .c n,b,h=>by
  cases b<;>simp [XE.beq]at h
  subst h;rfl
 | .add a b,x,h=>by
  cases x<;>simp [XE.beq]at h
  split at h
  . rename_i h1;rw [XE.fx h1,XE.fx h]
  . cases h
 | .sub a b,x,h=>by
  cases x<;>simp [XE.beq]at h
  split at h
  . rename_i h1;rw [XE.fx h1,XE.fx h]
  . cases h
 | .mul a b,x,h=>by
  cases x<;>simp [XE.beq]at h
  split at h
  . rename_i h1;rw [XE.fx h1,XE.fx h]
  . cases h
 | .quo a b,x,h=>by
  cases x<;>simp [XE.beq]at h
  split at h
  . rename_i h1;rw [XE.fx h1,XE.fx h]
  . cases h
 | .mn a b,x,h=>by
  cases x<;>simp [XE.beq]at h
  split at h
  . rename_i h1;rw [XE.fx h1,XE.fx h]
  . cases h
 | .mx a b,x,h=>by
  cases x<;>simp [XE.beq]at h
  split at h
  . rename_i h1;rw [XE.fx h1,XE.fx h]
  . cases h
abbrev HT :=List (XE×Int×Int)
def yf (H:HT):Prop:= ∀x∈H,x.2.1<=x.1.den/\x.1.den<=x.2.2
theorem yf.nil :yf []:=fun _ h=>by cases h
def zt (e:XE):HT->Option (Int×Int)
 |[]=>none
 |(x,b)::r=>match XE.beq x e with
  |true=>some b
  |false=>zt e r
theorem qm {e:XE} {l h:Int}: ∀{H:HT},yf H->zt e H=some (l,h)->l<=e.den/\e.den<=h
 |[],_,hf=>by cases hf
 |(x,b)::r,hH,hf=>by
  simp only [zt]at hf;split at hf
  . rename_i h1;have:=XE.fx h1;subst this;cases hf;exact hH (x,l,h) (by simp)
  . exact qm (fun y hy=>hH y (by simp [hy])) hf
def IB (e:XE) (lo hi:Int):Option SV:=
 if-9223372036854775808<=lo/\hi<=9223372036854775807 then(if lo=hi then some (.int .i64 lo)else some (.sy .i64 e lo hi))else none
def wF (H:HT) (e:XE) (lo hi:Int):Option SV:=match zt e H with
 |some (l,h)=>IB e (max lo l) (min hi h)
 |none=>IB e lo hi
theorem wrap64 {n:Int} (h1: -9223372036854775808<=n) (h2:n<=9223372036854775807):IntKind.i64.wrap n=n:=by
 simp [IntKind.wrap,IntKind.bits,IntKind.signed];omega
section
variable {ro : RO} {own : Own}
theorem F2 {e:XE} {lo hi:Int} {z:SV} (h:IB e lo hi=some z) (h1:lo<=e.den) (h2:e.den<=hi):IntKind.i64.wrap e.den=e.den/\ ∀(ro:RO) (own:Own),Rel ro own z (.int .i64 e.den):=by
 unfold IB at h;split at h
 case isFalse=>cases h
 rename_i hb;refine⟨wrap64 (by omega) (by omega),fun ro own=> ?_⟩;split at h
 . rename_i e1;cases h;rw [show e.den=lo by omega];exact .int _ _ _
 . cases h;exact .sy _ _ _ _ _ _ rfl h1 h2
theorem jr {H:HT} (hH:yf H) {e:XE} {lo hi:Int} {z:SV} (h:wF H e lo hi=some z) (h1:lo<=e.den) (h2:e.den<=hi):IntKind.i64.wrap e.den=e.den/\ ∀(ro:RO) (own:Own),Rel ro own z (.int .i64 e.den):=by
 unfold wF at h;split at h
 . rename_i l u hf;obtain⟨g1,g2⟩:=qm hH hf;exact F2 h (by omega) (by omega)
 . exact F2 h h1 h2
abbrev YB :=XE×Int×Int
def pR :SV->Option YB
 | .int .i64 n=>some (.c n,n,n)
 | .sy .i64 e lo hi=>some (e,lo,hi)
 |_=>none
structure Dk (a : YB) (n : Int) : Prop where
 eq : n = a.1.den
 lo : a.2.1 <= n
 hi : n <= a.2.2
theorem kZ {x:SV} {a:YB} {v:Value} (h:pR x=some a) (hr:Rel ro own x v): ∃n,v= .int .i64 n/\Dk a n:=by
 unfold pR at h;split at h
 . cases h;cases hr;exact⟨_,rfl,rfl,Kx _,Kx _⟩
 . cases h;cases hr;exact⟨_,rfl, ‹_›, ‹_›, ‹_›⟩
 . cases h
def VK (m:Int):XE->Bool
 | .c n=>n==m
 |_=>false
theorem xZ {m:Int} {e:XE} (h:VK m e=true):e.den=m:=by
 cases e<;>simp [VK]at h
 subst h;rfl
def VS (a b:XE):XE:=match VK 0 b with
 |true=>a
 |false=>match VK 0 a with
  |true=>b
  |false=> .add a b
theorem PY (a b:XE):(VS a b).den=a.den+b.den:=by
 unfold VS;split
 . rename_i h;rw [xZ h];omega
 . split
   . rename_i h;rw [xZ h];omega
   . rfl
def UX (a b:XE):XE:=match VK 0 b with
 |true=>a
 |false=> .sub a b
theorem O3 (a b:XE):(UX a b).den=a.den-b.den:=by
 unfold UX;split
 . rename_i h;rw [xZ h];omega
 . rfl
def Rr (a b:XE):XE:=match VK 1 b with
 |true=>a
 |false=>match VK 1 a with
  |true=>b
  |false=>match a with
   | .c n=> .mul b (.c n)
   |a=> .mul a b
theorem F8 (a b:XE):(Rr a b).den=a.den*b.den:=by
 unfold Rr;split
 . rename_i h;rw [xZ h,Ke]
 . split
   . rename_i h;rw [xZ h,K8]
   . split
     . exact J6 _ _
     . rfl
def quoE (a:XE) (n:Int):XE:=match a with
 | .mul x (.c m)=>if m=n then x else .quo a (.c n)
 |_=> .quo a (.c n)
theorem NX {a:XE} {n:Int} (h:n≠0):(quoE a n).den=a.den.tdiv n:=by
 unfold quoE;split
 . split
   . rename_i e;subst e;simp only [XE.den];rw [Int.mul_tdiv_cancel _ h]
   . rfl
 . rfl
def MW (a b:YB):Int:=min (min (a.2.1*b.2.1) (a.2.1*b.2.2)) (min (a.2.2*b.2.1) (a.2.2*b.2.2))
def wa (a b:YB):Int:=max (max (a.2.1*b.2.1) (a.2.1*b.2.2)) (max (a.2.2*b.2.1) (a.2.2*b.2.2))
theorem si {l h n:Int} (h1:l<=n) (h2:n<=h) (m:Int):min (l*m) (h*m)<=n*m/\n*m<=max (l*m) (h*m):=by
 rcases Int.le_total 0 m with hm|hm
 . have:=Jh h1 hm;have:=Jh h2 hm;omega
 . have:=Int.mul_le_mul_of_nonpos_right h1 hm;have:=Int.mul_le_mul_of_nonpos_right h2 hm;omega
theorem Rz {a b:YB} {n m:Int} (ha:Dk a n) (hb:Dk b m):MW a b<=n*m/\n*m<=wa a b:=by
 obtain⟨_,a1,a2⟩:=ha;obtain⟨_,b1,b2⟩:=hb;unfold MW wa;have h0:=si a1 a2 m;have h1:=si b1 b2 a.2.1;have h2:=si b1 b2 a.2.2;rw [J6 b.2.1,J6 b.2.2,J6 m]at h1 h2;omega
def Tl (H:HT) (a b:YB):Option Bool:=
 if a.2.2<b.2.1 then some true else if b.2.2<=a.2.1 then some false else match XE.beq a.1 b.1 with
 |true=>some false
 |false=>match zt (.sub a.1 b.1) H with
  |some (l,h)=>if h<0 then some true else if 0<=l then some false else none
  |none=>match zt (.sub b.1 a.1) H with
   |some (l,h)=>if 0<l then some true else if h<=0 then some false else none
   |none=>none
theorem pG {H:HT} (hH:yf H) {a b:YB} {n m:Int} (ha:Dk a n) (hb:Dk b m) {r:Bool} (h:Tl H a b=some r):decide (n<m)=r:=by
 obtain⟨a0,a1,a2⟩:=ha;obtain⟨b0,b1,b2⟩:=hb;unfold Tl at h;split at h
 . cases h;simp;omega
 . split at h
   . cases h;simp;omega
   . split at h
     . rename_i he;cases h;have:=XE.fx he;rw [a0,b0,this];simp
     . split at h
       . rename_i l u hf;have:=qm hH hf;simp only [XE.den]at this;split at h
         . cases h;simp;omega
         . split at h
           . cases h;simp;omega
           . cases h
       . split at h
         . rename_i l u hf;have:=qm hH hf;simp only [XE.den]at this;split at h
           . cases h;simp;omega
           . split at h
             . cases h;simp;omega
             . cases h
         . cases h
def eqQ (H:HT) (a b:YB):Option Bool:=
 match XE.beq a.1 b.1 with
 |true=>some true
 |false=>if a.2.2<b.2.1 then some false else if b.2.2<a.2.1 then some false else match zt (.sub a.1 b.1) H with
  |some (l,h)=>if h<0 then some false else if 0<l then some false else if 0<=l/\h<=0 then some true else none
  |none=>none
theorem HC {H:HT} (hH:yf H) {a b:YB} {n m:Int} (ha:Dk a n) (hb:Dk b m) {r:Bool} (h:eqQ H a b=some r):(n==m)=r:=by
 obtain⟨a0,a1,a2⟩:=ha;obtain⟨b0,b1,b2⟩:=hb;have key:(n==m)=decide (n=m):=by rw [Xm];simp
 rw [key];unfold eqQ at h;split at h
 . rename_i he;cases h;have:=XE.fx he;rw [a0,b0,this];simp
 . split at h
   . cases h;simp;omega
   . split at h
     . cases h;simp;omega
     . split at h
       . rename_i l u hf;have:=qm hH hf;simp only [XE.den]at this;split at h
         . cases h;simp;omega
         . split at h
           . cases h;simp;omega
           . split at h
             . cases h;simp;omega
             . cases h
       . cases h
def QS :Option Bool->Option SV
 |some true=>some .tt
 |some false=>some .ff
 |none=>none
def PW :Option Bool->Option Bool
 |some true=>some false
 |some false=>some true
 |none=>none
theorem Wr {o:Option Bool} {z:SV} {b:Bool} (h:QS o=some z) (hb: ∀r,o=some r->b=r):Rel ro own z (.bool b):=by
 unfold QS at h;split at h
 . cases h;rw [hb _ rfl];exact .tt _
 . cases h;rw [hb _ rfl];exact .ff _
 . cases h
def Wg (H:HT) (op:BinOp) (a b:YB):Option SV:=match op with
 | .add=>wF H (VS a.1 b.1) (a.2.1+b.2.1) (a.2.2+b.2.2)
 | .sub=>match XE.beq a.1 b.1 with
  |true=>some (.int .i64 0)
  |false=>wF H (UX a.1 b.1) (a.2.1-b.2.2) (a.2.2-b.2.1)
 | .mul=>match XE.beq a.1 b.1 with
  |true=>wF H (Rr a.1 b.1) (max 0 (MW a b)) (wa a b)
  |false=>wF H (Rr a.1 b.1) (MW a b) (wa a b)
 | .eql=>QS (eqQ H a b)
 | .neq=>QS (PW (eqQ H a b))
 | .lss=>QS (Tl H a b)
 | .gtr=>QS (Tl H b a)
 | .leq=>QS (PW (Tl H b a))
 | .geq=>QS (PW (Tl H a b))
 |_=>none
theorem CV {o:Option Bool} {r:Bool} (h:PW o=some r):o=some (!r):=by
 cases o with
 |none=>cases h
 |some b=>cases b<;>simp [PW]at h<;>subst h<;>rfl
theorem sq_nonneg (n:Int):0<=n*n:=by
 rcases Int.le_total 0 n with h|h
 . exact Ja h h
 . exact Yj h h
theorem RS {H:HT} (hH:yf H) {op:BinOp} {a b:YB} {n m:Int} (ha:Dk a n) (hb:Dk b m) {z:SV} (h:Wg H op a b=some z): ∃v,E7 op .i64 n m=some v/\ ∀(ro:RO) (own:Own) u,Rel ro own v u->Rel ro own z u:=by
 have num: ∀{e:XE} {lo hi r:Int},wF H e lo hi=some z->r=e.den->lo<=r->r<=hi-> ∀(ro:RO) (own:Own) u,Rel ro own (.int .i64 (IntKind.i64.wrap r)) u->Rel ro own z u:=by
  intro e lo hi r hz he h1 h2 ro own u hu;subst he;obtain⟨g1,g2⟩:=jr hH hz h1 h2;rw [g1]at hu;cases hu;exact g2 ro own
 have bl: ∀{o:Option Bool} {r:Bool},QS o=some z->(∀q,o=some q->r=q)-> ∀(ro:RO) (own:Own) u,Rel ro own (.bool r) u->Rel ro own z u:=by
  intro o r hz hr ro own u hu;cases hu;exact Wr hz hr
 have ha':=ha;have hb':=hb;obtain⟨a0,a1,a2⟩:=ha;obtain⟨b0,b1,b2⟩:=hb;unfold Wg at h;split at h
 . exact⟨_,rfl,num h (by rw [PY,a0,b0]) (by omega) (by omega)⟩
 . split at h
   . rename_i he;cases h;have:=XE.fx he;refine⟨_,rfl,fun ro own u hu=> ?_⟩;have e0:n-m=0:=by rw [a0,b0,this];omega
     rw [e0]at hu;cases hu;exact .int _ _ _
   . exact⟨_,rfl,num h (by rw [O3,a0,b0]) (by omega) (by omega)⟩
 . have hm:=Rz ha' hb';split at h
   . rename_i he;have:=XE.fx he;have e0:n=m:=by rw [a0,b0,this]
     have:=sq_nonneg n;exact⟨_,rfl,num h (by rw [F8,a0,b0]) (by rw [<-e0]at hm⊢;omega) (by omega)⟩
   . exact⟨_,rfl,num h (by rw [F8,a0,b0]) hm.1 hm.2⟩
 . exact⟨_,rfl,bl h fun q hq=>HC hH ha' hb' hq⟩
 . refine⟨_,rfl,bl h fun q hq=> ?_⟩;have:=HC hH ha' hb' (CV hq);rw [bne,this,Bool.not_not]
 . exact⟨_,rfl,bl h fun q hq=>pG hH ha' hb' hq⟩
 . exact⟨_,rfl,bl h fun q hq=>pG hH hb' ha' hq⟩
 . refine⟨_,rfl,bl h fun q hq=> ?_⟩;have:=pG hH hb' ha' (CV hq);rw [Xm]at this⊢;simp at this⊢;cases q<;>simp at this⊢ <;>omega
 . refine⟨_,rfl,bl h fun q hq=> ?_⟩;have:=pG hH ha' hb' (CV hq);rw [Xm]at this⊢;simp at this⊢;cases q<;>simp at this⊢ <;>omega
 . cases h
def OX (H:HT) (a b:YB):Option SV:=match b.1 with
 | .c n=>if 0<n then wF H (quoE a.1 n) (a.2.1.tdiv n) (a.2.2.tdiv n)else none
 |_=>none
theorem AX {x y n:Int} (hn:0<n) (h:x<=y):x.tdiv n<=y.tdiv n:=by
 rcases Int.le_total 0 x with hx|hx
 . rw [Ky hx,Ky (by omega)];exact Int.ediv_le_ediv hn h
 . rcases Int.le_total 0 y with hy|hy
   . have h1:x.tdiv n<=0:=by
      have:0<=(-x).tdiv n:=Int.tdiv_nonneg (by omega) (by omega);rw [Int.neg_tdiv]at this;omega
     have h2:0<=y.tdiv n:=Int.tdiv_nonneg hy (by omega);omega
   . have h1:(-y).tdiv n<=(-x).tdiv n:=by
      rw [Ky (by omega),Ky (by omega)];exact Int.ediv_le_ediv hn (by omega)
     rw [Int.neg_tdiv,Int.neg_tdiv]at h1;omega
theorem Fa {H:HT} (hH:yf H) {a b:YB} {n m:Int} (ha:Dk a n) (hb:Dk b m) {z:SV} (h:OX H a b=some z):m≠0/\ ∀(ro:RO) (own:Own),Rel ro own z (.int .i64 (IntKind.i64.wrap (n.tdiv m))):=by
 obtain⟨a0,a1,a2⟩:=ha;obtain⟨b0,b1,b2⟩:=hb;unfold OX at h;split at h
 case h_2=>cases h
 rename_i k hk;split at h
 case isFalse=>cases h
 rename_i hk0;have hm:m=k:=by rw [b0,hk];rfl
 subst hm;have hd:n.tdiv m=(quoE a.1 m).den:=by rw [NX (by omega),a0]
 obtain⟨g1,g2⟩:=jr hH h (by rw [<-hd];exact AX hk0 a1) (by rw [<-hd];exact AX hk0 a2);refine⟨by omega,fun ro own=> ?_⟩;rw [hd,g1];exact g2 ro own
def Hb (H:HT) (a:YB):Option SV:=wF H a.1 a.2.1 a.2.2
def PS (H:HT) (a b:YB):Option SV:=match Tl H b a with
 |some true=>Hb H b
 |some false=>Hb H a
 |none=>wF H (.mn a.1 b.1) (min a.2.1 b.2.1) (min a.2.2 b.2.2)
def NV (H:HT) (a b:YB):Option SV:=match Tl H a b with
 |some true=>Hb H b
 |some false=>Hb H a
 |none=>wF H (.mx a.1 b.1) (max a.2.1 b.2.1) (max a.2.2 b.2.2)
theorem Pd {H:HT} (hH:yf H) {a b:YB} {n m:Int} (ha:Dk a n) (hb:Dk b m) {z:SV} (h:PS H a b=some z): ∀(ro:RO) (own:Own),Rel ro own z (.int .i64 (if m<n then m else n)):=by
 intro ro own;have ha':=ha;have hb':=hb;obtain⟨a0,a1,a2⟩:=ha;obtain⟨b0,b1,b2⟩:=hb;unfold PS Hb at h;split at h
 . rename_i hq;have:=pG hH hb' ha' hq;simp at this;rw [if_pos this,b0];exact(jr hH h (by omega) (by omega)).2 ro own
 . rename_i hq;have:=pG hH hb' ha' hq;simp at this;rw [if_neg (by omega),a0];exact(jr hH h (by omega) (by omega)).2 ro own
 . have e:(if m<n then m else n)=(XE.mn a.1 b.1).den:=by
    simp only [XE.den,<-a0,<-b0];split<;>omega
   rw [e];refine(jr hH h ?_ ?_).2 ro own
   . rw [<-e];split<;>omega
   . rw [<-e];split<;>omega
theorem L4 {H:HT} (hH:yf H) {a b:YB} {n m:Int} (ha:Dk a n) (hb:Dk b m) {z:SV} (h:NV H a b=some z): ∀(ro:RO) (own:Own),Rel ro own z (.int .i64 (if m>n then m else n)):=by
 intro ro own;have ha':=ha;have hb':=hb;obtain⟨a0,a1,a2⟩:=ha;obtain⟨b0,b1,b2⟩:=hb;unfold NV Hb at h;split at h
 . rename_i hq;have:=pG hH ha' hb' hq;simp at this;rw [if_pos (show m>n by omega),b0];exact(jr hH h (by omega) (by omega)).2 ro own
 . rename_i hq;have:=pG hH ha' hb' hq;simp at this;rw [if_neg (by omega),a0];exact(jr hH h (by omega) (by omega)).2 ro own
 . have e:(if m>n then m else n)=(XE.mx a.1 b.1).den:=by
    simp only [XE.den,<-a0,<-b0];split<;>omega
   rw [e];refine(jr hH h ?_ ?_).2 ro own
   . rw [<-e];split<;>omega
   . rw [<-e];split<;>omega
def MO (H:HT) (a:YB):Option SV:=wF H (.sub (.c 0) a.1) (0-a.2.2) (0-a.2.1)
theorem MR {H:HT} (hH:yf H) {a:YB} {n:Int} (ha:Dk a n) {z:SV} (h:MO H a=some z): ∀(ro:RO) (own:Own),Rel ro own z (.int .i64 (IntKind.i64.wrap (0-n))):=by
 intro ro own;obtain⟨a0,a1,a2⟩:=ha;unfold MO at h;have e:0-n=(XE.sub (.c 0) a.1).den:=by simp only [XE.den,<-a0]
 obtain⟨g1,g2⟩:=jr hH h (by rw [<-e];omega) (by rw [<-e];omega);rw [e,g1];exact g2 ro own
def GU :SV->Bool
 | .sy _ _ _ _=>true
 |_=>false
def MI :List ar->Bool
 |[]=>false
 | .s v::r=>match GU v with
  |true=>true
  |false=>MI r
 |_::r=>MI r
def TR :SV->SV
 | .sy k _ _ _=> .int k 0
 |v=>v
def xD :List ar->List ar
 |[]=>[]
 | .s v::r=> .s (TR v)::xD r
 | .a n es f::r=> .a n es f::xD r
def As :SV->SV
 | .sy k e _ _=> .int k e.den
 |v=>v
def mV :List ar->List ar
 |[]=>[]
 | .s v::r=> .s (As v)::mV r
 | .a n es f::r=> .a n es f::mV r
theorem FU {x:SV} {v:Value} (h:Rel ro own x v):Rel ro own (As x) v:=by
 cases x
 case sy=>cases h;subst_vars;exact .int _ _ _
 all_goals exact h
theorem vk : ∀l:List ar,aa (mV l)=aa l
 |[]=>rfl
 | .s v::r=>by simp only [mV,aa,ar.size,vk r]
 | .a n es f::r=>by simp only [mV,aa,vk r]
theorem vm : ∀{l:List ar} {k:Nat} {sv:SV},flat (mV l) k=some sv-> ∃u,flat l k=some u/\(sv=u\/sv=As u)
 |[],_,_,h=>by cases h
 | .s v::r,k,sv,h=>by
  cases k with
  |zero=>rw [mV,cC]at h;cases h;exact⟨v,by rw [cC], .inr rfl⟩
  |succ k=>rw [mV,cB]at h;rw [cB];exact vm h
 | .a n es f::r,k,sv,h=>by
  rw [mV]at h
  by_cases hlt:k<n*es
  . rw [cy hlt]at h⊢;exact⟨sv,h, .inl rfl⟩
  . rw [gZ hlt]at h⊢;exact vm h
theorem D2 {l:List ar} {v:Value} (h:Rel ro own (.agg l) v):Rel ro own (.agg (mV l)) v:=by
 obtain⟨cs,hv,hs,hh⟩:=cU h;rw [hv];refine .agg _ _ _ (by rw [vk];exact hs) fun k sv hk=> ?_
 obtain⟨u,h1,h2⟩:=vm hk;rcases h2 with rfl|rfl
 . exact hh k _ h1
 . exact FU (hh k u h1)
theorem LR (v:SV):iM (As v)=iM (TR v):=by cases v<;>rfl
theorem qP : ∀{l:List ar} {ks:List CK},ef (xD l) ks->ef (mV l) ks
 |[],ks,h=>h
 | .s v::r,[],h=>by exact h.elim
 | .s v::r,k::ks,h=>by
  simp only [xD,mV,ef,aL]at h⊢;exact⟨by rw [LR];exact h.1,qP h.2⟩
 | .a n es f::r,ks,h=>by
  simp only [xD,mV,ef,aL]at h⊢;exact⟨h.1,h.2.1,qP h.2.2⟩
theorem lK : ∀{l l':List ar},bG l l'=true->bG (mV l) (mV l')=true
 |[],[],_=>rfl
 | .s v::r, .s v'::r',h=>by simp only [bG,mV,Qh]at h⊢;exact lK h
 | .a n es f::r, .a n' es' f'::r',h=>by
  simp only [bG,mV,J2]at h⊢;exact⟨h.1,lK h.2⟩
 | .s v::r, .a n' es' f'::r',h=>by simp [bG]at h
 | .a n es f::r, .s v'::r',h=>by simp [bG]at h
 |[],_::_,h=>by simp [bG]at h
 |_::_,[],h=>by simp [bG]at h
def BY (H:HT) (x y:SV):Option Bool:=match GU x,GU y with
 |false,false=>some (ot x y)
 |_,_=>match pR x,pR y with
  |some a,some b=>eqQ H a b
  |_,_=>none
def js (H:HT):List ar->List ar->Option Bool
 |[],[]=>some true
 | .s x::r, .s y::r'=>match BY H x y with
  |some false=>some false
  |some true=>js H r r'
  |none=>match js H r r' with
   |some false=>some false
   |_=>none
 |_,_=>none
theorem BP {x:SV} {a:YB} {v:Value} (h:pR x=some a) (hr:Rel ro own x v): ∃n,As x= .int .i64 n/\Dk a n:=by
 obtain⟨n,rfl,hy⟩:=kZ h hr;have:=FU hr;unfold pR at h;split at h
 . cases this;exact⟨_,rfl,hy⟩
 . refine⟨n,?_,hy⟩;simp only [As]at this⊢;cases this;rfl
 . cases h
theorem xQ {H:HT} (hH:yf H) {x y:SV} {vx vy:Value} (hx:Rel ro own x vx) (hy:Rel ro own y vy) {b:Bool} (h:BY H x y=some b):ot (As x) (As y)=b:=by
 unfold BY at h;split at h
 . rename_i h1 h2;cases h;have e1:As x=x:=by cases x<;>first|rfl|cases h1
   have e2:As y=y:=by cases y<;>first|rfl|cases h2
   rw [e1,e2]
 . split at h
   case h_2=>cases h
   rename_i a b' ha hb;obtain⟨n,e1,y1⟩:=BP ha hx;obtain⟨m,e2,y2⟩:=BP hb hy;rw [e1,e2];exact HC hH y1 y2 h
theorem rZ {H:HT} (hH:yf H): ∀{l l':List ar} {cs cs':Nat->Value},(∀k sv,flat l k=some sv->Rel ro own sv (cs k))->(∀k sv,flat l' k=some sv->Rel ro own sv (cs' k))-> ∀{b:Bool},js H l l'=some b->iI (mV l) (mV l')=b
 |[],[],_,_,_,_,_,h=>by cases h;rfl
 | .s x::r, .s y::r',cs,cs',h1,h2,b,h=>by
  have hx:=h1 0 x (by rw [cC]);have hy:=h2 0 y (by rw [cC]);have ih:=fun {b}=>rZ hH (l:=r) (l':=r') (cs:=fun k=>cs (k+1)) (cs':=fun k=>cs' (k+1)) (fun k sv hk=>h1 (k+1) sv (by rw [cB];exact hk)) (fun k sv hk=>h2 (k+1) sv (by rw [cB];exact hk)) (b:=b)
  simp only [js]at h;simp only [mV,iI];split at h
  . rename_i hc;cases h;rw [xQ hH hx hy hc];rfl
  . rename_i hc;rw [xQ hH hx hy hc,ih h];simp
  . split at h
    . rename_i hc;cases h;rw [ih hc];simp
    . cases h
 |[],_::_,_,_,_,_,_,h=>by simp [js]at h
 | .s _::_,[],_,_,_,_,_,h=>by simp [js]at h
 | .a _ _ _::_,[],_,_,_,_,_,h=>by simp [js]at h
 | .a _ _ _::_,_::_,_,_,_,_,_,h=>by simp [js]at h
 | .s _::_, .a _ _ _::_,_,_,_,_,_,h=>by simp [js]at h
end
end Go.Sx
namespace Go.Sx
open Go Go.RowKit
variable [bW]
section
variable {β : Type}
def cd (n:Nat) (k:Nat->β):β:=match n with
 |0=>k 0
 |m+1=>k (Nat.succ m)
def vO (z:Int) (k:Int->β):β:=match z with
 | .ofNat n=>cd n fun n=>k (.ofNat n)
 | .negSucc n=>cd n fun n=>k (.negSucc n)
def forceB (b:Bool) (k:Bool->β):β:=match b with
 |true=>k true
 |false=>k false
def HG (x:IntKind) (k:IntKind->β):β:=match x with
 | .i8=>k .i8| .i16=>k .i16| .i32=>k .i32| .i64=>k .i64
 | .u8=>k .u8| .u16=>k .u16| .u32=>k .u32| .u64=>k .u64
def dK (x:XE) (k:XE->β):β:=match x with
 | .v i=>cd i fun i=>k (.v i)
 | .c n=>vO n fun n=>k (.c n)
 | .add a b=>dK a fun a=>dK b fun b=>k (.add a b)
 | .sub a b=>dK a fun a=>dK b fun b=>k (.sub a b)
 | .mul a b=>dK a fun a=>dK b fun b=>k (.mul a b)
 | .quo a b=>dK a fun a=>dK b fun b=>k (.quo a b)
 | .mn a b=>dK a fun a=>dK b fun b=>k (.mn a b)
 | .mx a b=>dK a fun a=>dK b fun b=>k (.mx a b)
def aY (es:Nat) (L:List (List SV)) (i:Nat):List SV:=L.getD i (List.replicate es .any)
def wg (R:SV->(SV->β)->β):List SV->(List SV->β)->β
 |[],k=>k []
 |x::r,k=>R x fun x=>wg R r fun r=>k (x::r)
def AQ (R:SV->(SV->β)->β) (f:Nat->List SV):Nat->List (List SV)->(List (List SV)->β)->β
 |0,acc,k=>k acc
 |n+1,acc,k=>wg R (f n) fun r=>AQ R f n (r::acc) k
def EO (R:SV->(SV->β)->β) (x:ar) (k:ar->β):β:=match x with
 | .s v=>R v fun v=>k (.s v)
 | .a n es f=>cd n fun n=>cd es fun es=>AQ R f n [] fun L=>k (.a n es (aY es L))
def IK (R:SV->(SV->β)->β):List ar->(List ar->β)->β
 |[],k=>k []
 |x::r,k=>EO R x fun x=>IK R r fun r=>k (x::r)
def oE :Nat->SV->(SV->β)->β
 |0,x,k=>k x
 |d+1,x,k=>match x with
  | .any=>k .any
  | .bool b=>match b with
   |true=>k .tt
   |false=>k .ff
  | .tt=>k .tt
  | .ff=>k .ff
  | .int a n=>HG a fun a=>vO n fun n=>k (.int a n)
  | .str s=>k (.str s)
  | .aq=>k .aq
  | .agg l=>IK (oE d) l fun l=>k (.agg l)
  | .bp l=>wg (oE d) l fun l=>k (.bp l)
  | .ptr a b=>cd a fun a=>cd b fun b=>k (.ptr a b)
  | .su a b c i j=>cd a fun a=>cd b fun b=>cd c fun c=>cd i fun i=>cd j fun j=>k (.su a b c i j)
  | .sl a b c n=>cd a fun a=>cd b fun b=>cd c fun c=>cd n fun n=>k (.sl a b c n)
  | .aI es n f=>cd es fun es=>cd n fun n=>AQ (oE d) f n [] fun L=>k (.aI es n (aY es L))
  | .rA es n f i j=>cd es fun es=>cd n fun n=>cd i fun i=>cd j fun j=>AQ (oE d) f n [] fun L=>k (.rA es n (aY es L) i j)
  | .fn f a b=>cd f fun f=>wg (oE d) a fun a=>wg (oE d) b fun b=>k (.fn f a b)
  | .DG=>k .DG
  | .emp=>k .emp
  | .z9 a=>cd a fun a=>k (.z9 a)
  | .km=>k .km
  | .lG=>k .lG
  | .pn=>k .pn
  | .Gl e es n f=>k (.Gl e es n f)
  | .sy a e lo hi=>HG a fun a=>dK e fun e=>vO lo fun lo=>vO hi fun hi=>k (.sy a e lo hi)
  | .tg i=>cd i fun i=>k (.tg i)
def uv (d:Nat):List (Loc×Item)->(List (Loc×Item)->β)->β
 |[],k=>k []
 |(l,x)::r,k=>
  let go (l:Loc):β:=match x with
   | .v x=>oE d x fun x=>uv d r fun r=>k ((l, .v x)::r)
   | .m (some m)=>kN m fun m=>uv d r fun r=>k ((l, .m (some m))::r)
   | .m none=>uv d r fun r=>k ((l, .m none)::r)
   | .s x=>EO (oE d) x fun x=>uv d r fun r=>k ((l, .s x)::r)
  match l with
  | .tm t=>go (.tm t)
  | .mt i=>cd i fun i=>go (.mt i)
  | .sg i q=>cd i fun i=>cd q fun q=>go (.sg i q)
end
inductive Trie (α : Type) : Type
 | e
 | nd (l : Trie α) (v : Option α) (r : Trie α)
section
variable {α β : Type}
def Trie.at :Trie α->Nat->Option α
 | .e,_=>none
 | .nd l v r,n=>match n with
  |0=>v
  |m+1=>match m%2 with
   |0=>l.at (m/2)
   |_+1=>r.at (m/2)
def Lp (R:Trie α->Nat->(Trie α->β)->β) (x:α) (n:Nat) (l:Trie α) (v:Option α) (r:Trie α) (k:Trie α->β):β:=match n with
 |0=>k (.nd l (some x) r)
 |m+1=>match m%2 with
  |0=>R l (m/2) fun l=>k (.nd l v r)
  |_+1=>R r (m/2) fun r=>k (.nd l v r)
def Trie.put (bad:β):Nat->Trie α->Nat->α->(Trie α->β)->β
 |0,_,_,_,_=>bad
 |f+1,t,n,x,k=>match t with
  | .e=>Lp (fun t n k=>Trie.put bad f t n x k) x n .e none .e k
  | .nd l v r=>Lp (fun t n k=>Trie.put bad f t n x k) x n l v r k
def QQ (bad:β):List α->Nat->α->(List α->β)->β
 |[],_,_,_=>bad
 |_::r,0,v,k=>k (v::r)
 |x::r,n+1,v,k=>QQ bad r n v fun r=>k (x::r)
def L0 (v:α):Nat->List α->(List α->β)->β
 |0,acc,k=>k acc
 |n+1,acc,k=>L0 v n (v::acc) k
end
abbrev Rn :=lZ×List ar
def EA (m:lZ):Nat:=match cz m with
 |true=>1
 |false=>m.ns
structure cg where
 tm : Trie SV
 en : Trie Rn
 nx : Nat
 b0 : Nat
 wr : List Nat
def cg.get (s:cg):Loc->Item
 | .tm t=> .v ((s.tm.at t).getD (.bp []))
 | .mt id=> .m ((s.en.at id).map (·.1))
 | .sg id q=> .s (((s.en.at id).bind fun e=>e.2[q]?).getD (.s .any))
def jX :Nat:=24
section
variable {β : Type}
def cg.force (s:cg) (k:cg->β):β:=match s with
 |⟨tm,en,nx,b0,wr⟩=>k ⟨tm,en,nx,b0,wr⟩
def cg.Nd (bad:β) (s:cg) (l:Loc) (x:Item) (k:cg->β):β:=match s with
 |⟨tm,en,nx,b0,wr⟩=>match l,x with
  | .tm t, .v x=>Trie.put bad jX tm t x fun tm=>k ⟨tm,en,nx,b0,wr⟩
  | .mt id, .m (some m)=>match Nat.ble m.ns 64 with
   |false=>bad
   |true=>match en.at id with
   |some (_,l)=>Trie.put bad jX en id (m,l) fun en=>match Nat.blt id b0 with
    |true=>k ⟨tm,en,nx,b0,id::wr⟩
    |false=>k ⟨tm,en,nx,b0,wr⟩
   |none=>match Nat.beq id nx with
    |true=>L0 (ar.s .any) (EA m) [] fun z=>Trie.put bad jX en id (m,z) fun en=>cd (Nat.succ nx) fun nx=>k ⟨tm,en,nx,b0,wr⟩
    |false=>bad
  | .sg id q, .s x=>match en.at id with
   |some (m,l)=>QQ bad l q x fun l=>Trie.put bad jX en id (m,l) fun en=>match Nat.blt id b0 with
    |true=>k ⟨tm,en,nx,b0,id::wr⟩
    |false=>k ⟨tm,en,nx,b0,wr⟩
   |none=>bad
  |_,_=>bad
def I6 (bad:β) (s:cg) (ws:List (Loc×Item)) (k:cg->β):β:=match ws with
 |[]=>k s
 |(l,x)::r=>s.Nd bad l x fun s=>I6 bad s r k
end
def sameKey :SV->SV->Option Bool
 | .int k a, .int k' b=>if k=k' then some (a==b)else none
 | .str a, .str b=>some (a==b)
 |_,_=>none
def yM (f:Nat->List SV) (key:SV):Nat->Nat->Option (Option Nat)
 |0,_=>some none
 |n+1,i=>match f i with
  |[k,_]=>match sameKey key k with
   |some true=>some (some i)
   |some false=>yM f key n (i+1)
   |none=>none
  |_=>none
def gd :lZ:=⟨0,true,false,none,0,2,[]⟩
def vH (P:Program) (N nid:Nat) (dst:Option Tmp) (T:TypeId) (r:Option Operand):Tx:=
 match r,P.underlying T,dst with
 |none,some (.map _ _),some d=>if d<N then oO nid (.done [(.mt nid, .m (some gd)),(.sg nid 0, .s (.a 0 2 fun _=>[])),(.tm d, .v (.z9 nid))])else .fail
 |_,_,_=> .fail
def Ie (P:Program) (k:TypeId):SV->Bool
 | .int ik _=>match P.underlying k with|some (.int ik')=>ik==ik'|_=>false
 | .str _=>match P.underlying k with|some .string=>true|_=>false
 |_=>false
def xw (P:Program) (N:Nat) (dst:Option Tmp) (T:TypeId) (x key:SV):Tx:=
 match P.underlying T with
 |some (.map k e)=>match zeroOf P e with
  |some (_, .bool false)=>match Ie P k key with
   |true=>match x with
    | .km=>bm N dst .ff
    | .z9 id=>DJ id fun m=>if cz m=true then Dx id 0 fun
     | .a n 2 f=>match yM f key n 0 with
      |some none=>bm N dst .ff
      |some (some i)=>match f i with
       |[_,v]=>bm N dst v
       |_=> .fail
      |none=> .fail
     |_=> .fail
     else .fail
    |_=> .fail
   |false=> .fail
  |_=> .fail
 |_=> .fail
def qy (P:Program) (dst:Option Tmp) (T:TypeId) (x key v:SV):Tx:=
 match dst,P.underlying T,x with
 |none,some (.map k e), .z9 id=>match Ie P k key&&fM v,bZ P e with
  |true,some false=>DJ id fun m=>if cz m=true then Dx id 0 fun
   | .a n 2 f=>match yM f key n 0 with
    |some none=> .done [(.sg id 0, .s (.a (n+1) 2 fun j=>match Nat.beq j n with|true=>[key,v]|false=>f j))]
    |_=> .fail
   |_=> .fail
   else .fail
  |_,_=> .fail
 |_,_,_=> .fail
def Cx (P:Program) (N nid:Nat) (dst:Option Tmp) (T:TypeId) (x:SV):Tx:=
 match P.underlying T,x,dst with
 |some .string, .str l,some d=>if d<N then oO nid (.done [(.mt nid, .m (some gd)),(.sg nid 0, .s (.a 1 3 fun _=>[.str l, .int .i64 0])),(.tm d, .v (.ptr nid 0))])else .fail
 |_,_,_=> .fail
def Hh (N:Nat) (dst:Option Tmp) (x:SV):Tx:=
 match x with
 | .ptr id 0=>DJ id fun m=>if cz m=true then Dx id 0 fun
  | .a 1 3 f=>match f 0 with
   |[.str l, .int .i64 (.ofNat pos)]=>match dst with
    |some d=>if d<N then(match l[pos]? with
     |some c=>match Nat.blt c.toNat 128 with
      |true=> .done [(.sg id 0, .s (.a 1 3 fun _=>[.str l, .int .i64 ((pos+1:Nat):Int)])),(.tm d, .v (.bp [.tt, .int .i64 (pos:Int), .int .i32 (c.toNat:Int)]))]
      |false=> .fail
     |none=> .done [(.tm d, .v (.bp [.ff]))])else .fail
    |none=> .fail
   |_=> .fail
  |_=> .fail
  else .fail
 |_=> .fail
def Rt :SV->Option Bool
 | .aq=>some true
 | .emp| .sl _ _ _ (_+1)| .aI _ (_+1) _=>some false
 |_=>none
def HO :Operand->Bool
 | .const (.slice none 0 0)=>true
 |_=>false
def HX (P:Program) (T:TypeId):Bool:=match P.underlying T with
 |some (.slice _)=>true
 |_=>false
def IE (N:Nat) (dst:Option Tmp) (op:BinOp) (x:SV):Tx:=match Rt x,op with
 |some b, .eql=>bm N dst (.bool b)
 |some b, .neq=>bm N dst (.bool (!b))
 |_,_=> .fail
def tf (N:Nat) (dst:Option Tmp) (x:SV):Tx:=match x with
 | .ptr _ _| .su _ _ _ _ _| .rA _ _ _ _ _| .fn _ _ _=>bm N dst x
 |_=> .fail
def AM (P:Program) (N:Nat) (dst:Option Tmp) (T:TypeId):Tx:=match P.underlying T with
 |some (.slice e)=>match gi P e,P.info? e with
  |some z,some i=>if z.length=i.size/\0<i.size then bm N dst .emp else .fail
  |_,_=> .fail
 |_=> .fail
def yN (P:Program) (N:Nat) (dst:Option Tmp) (T:TypeId) (x:SV) (l h:Int) (other:Tx):Tx:=
 match x with
 | .aq=>if l=0/\h=0 then bm N dst .aq else .fail
 | .emp=>if l=0/\h=0 then bm N dst .emp else .fail
 | .sl id aD off len=>if l=h/\0<=l/\h<=(len:Int)then(if l=0 then bm N dst (.sl id aD off 0)else bm N dst (.aI 1 0 fun _=>[]))else other
 |_=>other
def Ue :SV->Nat
 | .sl _ _ _ n=>n
 |_=>0
def Cl (N:Nat) (dst:Option Tmp) (x:SV) (h m:Int):Tx:=
 match x with
 | .sl id aD off len=>if h=m/\0<=h/\h<=(len:Int)then cn [.sl id aD off h.toNat] fun
  |[.aI e n f],ws=>(bm N dst (.aI e n f)).bind fun ws'=> .done (ws++ws')
  |_,_=> .fail
  else .fail
 | .aI es len f=>if h=m/\0<=h/\h<=(len:Int)then bm N dst (.aI es h.toNat f)else .fail
 |_=> .fail
def isEmpty :SV->Bool
 | .aq| .emp| .aI _ 0 _| .sl _ _ _ 0=>true
 |_=>false
def oU (P:Program) (T:TypeId):Bool:=match P.underlying T with
 |some (.slice e)=>(cw P e).isSome
 |_=>false
def isSlice :SV->Bool
 | .aq| .emp| .aI _ _ _| .sl _ _ _ _=>true
 |_=>false
def FD :SV->Bool
 | .emp=>true
 |_=>false
def CR (dst:Option Tmp) (x:SV):Tx:=match dst,x with
 |none, .aI _ 0 _=> .done []
 |none, .aq=> .done []
 |none, .emp=> .done []
 |_,_=> .fail
def xg (P:Program) (H:HT) (N:Nat) (dst:Option Tmp) (op:BinOp) (T:TypeId) (x y:SV):Tx:=
 match pR x,pR y with
 |some a,some b=>match op with
  | .quo=>oF N dst (OX H a b)
  |_=>match P.underlying T with
   |some (.int _)=>oF N dst (Wg H op a b)
   |_=> .fail
 |_,_=> .fail
def CZ (P:Program) (H:HT) (N:Nat) (dst:Option Tmp) (op:BinOp) (T:TypeId) (l l':List ar):Tx:=
 match dC P 8 T with
 |some ks=>if P.eqGuardType P.depth T=false/\bG l l'=true/\bZ P T=some true then kK (ef (xD l) ks/\ef (xD l') ks) (match js H l l',op with
  |some b, .eql=>bm N dst (.bool b)
  |some b, .neq=>bm N dst (.bool (!b))
  |_,_=> .fail)else .fail
 |none=> .fail
def GN (P:Program) (H:HT) (N:Nat) (dst:Option Tmp) (op:BinOp) (T:TypeId) (x y:SV):Tx:=
 match x with
 | .sy _ _ _ _=>xg P H N dst op T x y
 | .agg l=>match y with
  | .agg l'=>match MI l||MI l' with
   |true=>CZ P H N dst op T l l'
   |false=>yp P N dst op T x y
  |_=> .fail
 |_=>match y with
  | .sy _ _ _ _=>xg P H N dst op T x y
  |_=>yp P N dst op T x y
def MM (H:HT) (N:Nat) (dst:Option Tmp) (op:UnOp) (x:SV):Tx:=match x with
 | .sy _ _ _ _=>match pR x,op with
  |some a, .neg=>oF N dst (MO H a)
  |_,_=> .fail
 |_=>PO N dst op x
def Dq (P:Program) (H:HT) (N nid:Nat) (dst:Option Tmp) (S D:TypeId) (x:SV):Tx:=match x with
 | .sy .i64 e lo hi=>match P.underlying S,P.underlying D with
  |some (.int _),some (.int .i64)=>oF N dst (Hb H (e,lo,hi))
  |_,_=> .fail
 |_=>yQ P N nid dst S D x
def RF (f:YB->YB->Option SV) (N:Nat) (dst:Option Tmp) (x y:SV):Tx:=match pR x,pR y with
 |some a,some b=>oF N dst (f a b)
 |_,_=> .fail
def MD :List SV->Bool
 |[]=>false
 | .sl _ _ _ _::_=>true
 |_::r=>MD r
def mI (P:Program) (N nid:Nat) (dst:Option Tmp) (T:TypeId) (len:Nat) (idx:List Nat) (xs:List SV):Tx:=
 iL xs fun xs' ws0=>match P.underlying T with
 |some (.slice e)=>match gi P e,cw P e with
  |some z,some es=>if z.length=es/\0<es/\len*es<=16777216 then(match sr len es (idx.zip xs') (fun _=>z)with
   |some f=>match dst with
    |some d=>if d<N then oO nid (.done (ws0++(lO nid true (some e) es [.a len es f]++[(.tm d, .v (.sl nid 0 0 len))])))else .fail
    |none=> .fail
   |none=> .fail)else .fail
  |_,_=> .fail
 |_=> .fail
def Zo (P:Program) (H:HT) (N nid:Nat) (o:Oper):Tx:=
 match o.op with
 | .unOp op T x=>fR x (MM H N o.dst op)
 | .convert S D x=>fR x (Dq P H N nid o.dst S D)
 | .makeMap T r=>vH P N nid o.dst T r
 | .lookup T x k ok=>if ok=false then fR x fun x=>fR k fun k=>xw P N o.dst T x k else .fail
 | .mapUpdate T m k v=>fR m fun m=>fR k fun k=>fR v fun v=>qy P o.dst T m k v
 | .nilCheck x=>fR x (tf N o.dst)
 | .range T x=>fR x (Cx P N nid o.dst T)
 | .next x b=>if b=true then fR x (Hh N o.dst)else .fail
 | .binOp op T x y _=>if HO y&&HX P T then fR x (IE N o.dst op)else fR x fun x=>fR y fun y=>GN P H N o.dst op T x y
 | .makeSlice T l c=>fR l fun x=>match x with
  | .int .i64 (.ofNat 0)=>fR c fun y=>match y with
   | .int .i64 (.ofNat 0)=>AM P N o.dst T
   |_=> .fail
  |_=>kf P N (fun _=>none) nid o
 | .buildSlice T 0 parts=>if parts.size=0 then AM P N o.dst T else .fail
 | .buildSlice T len parts=>jI (parts.toList.map (·.2)) fun xs=>match MD xs with
  |true=>mI P N nid o.dst T len (parts.toList.map (·.1)) xs
  |false=>dS P N nid o.dst T len ((parts.toList.map (·.1)).zip xs)
 | .slice T x lo hi mx=>match mx with
  |none=>fR x fun x=>kf.rdOpt lo fun lo=>kf.rdOpt hi fun hi=>match oU P T,Dc lo,CW (Ue x) hi with
   |true,some l,some h=>yN P N o.dst T x l h (kf P N (fun _=>none) nid o)
   |_,_,_=>kf P N (fun _=>none) nid o
  |some mx=>match lo,hi with
   |none,some hi=>fR x fun x=>fR hi fun hi=>fR mx fun mx=>match oU P T,hi,mx with
    |true, .int _ h, .int _ m=>Cl N o.dst x h m
    |_,_,_=> .fail
   |_,_=> .fail
 | .call c=>match c.callee with
  | .builtin .append=>jI c.args.toList fun
   |[x,y]=>match c.argTypes.toList with
    |[t,t']=>if t=t'/\oU P t=true then(match isEmpty y with
     |true=>if isSlice x=true then bm N o.dst x else .fail
     |false=>match FD x with
      |true=>kY P N nid o.dst t .aq y
      |false=>kf P N (fun _=>none) nid o)else kf P N (fun _=>none) nid o
    |_=> .fail
   |_=> .fail
  | .builtin .max=>jI c.args.toList fun
   |[x,y,z]=>match Ga x y with
    |some v=>oF N o.dst (Ga v z)
    |none=> .fail
   |[x,y]=>match GU x||GU y with
    |true=>RF (NV H) N o.dst x y
    |false=>kf P N (fun _=>none) nid o
   |_=>kf P N (fun _=>none) nid o
  | .builtin .min=>jI c.args.toList fun
   |[x,y]=>match GU x||GU y with
    |true=>RF (PS H) N o.dst x y
    |false=>kf P N (fun _=>none) nid o
   |_=>kf P N (fun _=>none) nid o
  | .builtin .clear=>jI c.args.toList fun
   |[x]=>match c.argTypes.toList with
    |[t]=>if oU P t=true then CR o.dst x else .fail
    |_=> .fail
   |_=> .fail
  | .builtin .len=>jI c.args.toList fun
   |[x]=>match FD x with
    |true=>match c.argTypes.toList with
     |[t]=>if oU P t=true then bm N o.dst (.int .i64 0)else .fail
     |_=> .fail
    |false=>kf P N (fun _=>none) nid o
   |_=>kf P N (fun _=>none) nid o
  |_=>kf P N (fun _=>none) nid o
 |_=>kf P N (fun _=>none) nid o
def Tx.lh (s:cg):Tx->List Loc->Option (List Loc×List (Loc×Item))
 | .done ws,R=>some (R,ws)
 | .rd l f,R=>(f (s.get l)).lh s (l::R)
 | .AU _ _,_=>none
 | .kK _ d a,R=>match d with
  | .isTrue _=>a.lh s R
  | .isFalse _=>none
 | .fail,_=>none
inductive Out : Type
 | n (s : cg)
 | x (i : Nat) (s : cg)
 | r (s : cg)
 | bad (f : Nat) (i : Nat)
inductive rV : Type
 | ok (r : SV) (s : cg)
 | bad (f : Nat) (i : Nat)
structure DX where
 P : Program
 I : Nat -> Option Func
 D : Nat -> Option (List SV -> Option SV)
 H : HT
abbrev Da :=Nat×Nat
def wh :SV->Bool
 | .bool _| .tt| .ff| .int _ _| .str _| .aq| .emp| .km| .lG| .pn| .sy _ _ _ _=>true
 |_=>false
def uM :List ar->Bool
 |[]=>true
 | .s v::r=>wh v&&uM r
 | .a _ _ _::_=>false
def Az :List SV->Bool
 |[]=>true
 | .agg l::r=>uM l&&Az r
 |v::r=>wh v&&Az r
def VD :SV->Bool
 | .agg l=>uM l
 | .bp l=>Az l
 |v=>wh v
def yj (dst:Option Tmp) (r:SV):List (Loc×Item):=match dst with
 |some d=>[(.tm d, .v r)]
 |none=>[]
def IP (r:SV) (ws:List (Loc×Item)) (dst:Option Tmp):List (Loc×Item):=match VD r with
 |true=>yj dst r
 |false=>ws++yj dst r
def Cc (s:cg) (c:Operand):Option Bool:=match c with
 | .tmp t=>match s.get (.tm t)with
  | .v .tt=>some true
  | .v .ff=>some false
  |_=>none
 | .const (.bool b)=>match b with
  |true=>some true
  |false=>some false
 |_=>none
def cA :Nat:=12
def ss (s:cg) (o:Oper):Option (Nat×List SV×List SV×Call):=match o.op with
 | .call c=>match c.callee with
  | .value (.func f)=>some (f,[],[],c)
  | .value (.tmp t)=>match s.get (.tm t)with
   | .v (.fn f a b)=>some (f,a,b,c)
   |_=>none
  |_=>none
 |_=>none
def geo (n:Nat):Nat:=(8^n-1)/7
def Tw (n m:Nat):Nat:=geo m*2|||geo (64*n)*4
def Sb (n k:Nat):Nat:=(geo k*2)<<<(3*n)|||(geo (64*k)*4)<<<(192*n)
def Ms (n m:Nat):List Nat->Nat
 |[]=>Sb n (m-n)
 |i::r=>Sb i 1|||Ms n m r
def Wt :Option Tmp->Nat
 |some d=>1<<<(3*d)
 |none=>0
def nK (n:Nat):List Loc->Bool
 |[]=>true
 | .tm _::r=>nK n r
 | .mt i::r=>Nat.blt i n&&nK n r
 | .sg i _::r=>Nat.blt i n&&nK n r
def Gz (c:Call) (R:List Loc):List Loc:=match c.callee with
 | .value (.tmp t)=> .tm t::R
 |_=>R
inductive Au : Type
 | ok (s : cg) (t : Da)
 | bad (f : Nat) (i : Nat)
def FH (F i:Nat) (s:cg) (R:List Loc) (ws:List (Loc×Item)):Au:=
 uv cA ws fun ws=>I6 (.bad F i) s ws fun s'=>match nK s'.nx R with
  |true=> .ok s' (bY R,bY (ws.map (·.1)))
  |false=> .bad F i
def Td (F i:Nat) (s:cg) (dst:Option Tmp) (d:List SV->Option SV) (xs:List SV) (R:List Loc) (els:Unit->Au):Au:=
 match (cn xs fun xs' ws=> .done ((.tm 0, .v (.bp xs'))::ws)).lh s R with
 |some (R,(.tm 0, .v (.bp xs'))::ws)=>wg (oE cA) xs' fun xs'=>match d xs' with
  |some r=>FH F i s R (IP r ws dst)
  |none=>els ()
 |_=>els ()
def S0 (F i:Nat) (s:cg) (dst:Option Tmp) (R:List Loc) (c:rV):Au:=
 match c with
 | .ok r ⟨_,en,nx,_,wr⟩=>oE cA r fun r=>match s with
  |⟨tm,_,nx0,b0,wr0⟩=>match nK nx0 R with
   |true=>
    let t:Da:=(bY R|||Tw nx0 nx,Wt dst|||Ms nx0 nx wr)
    match dst with
    |some d=>Trie.put (.bad F i) jX tm d r fun tm=> .ok ⟨tm,en,nx,b0,wr.filter (Nat.blt · b0)++wr0⟩ t
    |none=> .ok ⟨tm,en,nx,b0,wr.filter (Nat.blt · b0)++wr0⟩ t
   |false=> .bad F i
 | .bad f i=> .bad f i
section
variable (X : DX) (N F : Nat) (call : Nat -> Func -> List SV -> cg -> rV)
def JJ (o:Oper) (i:Nat) (s:cg) (f:Nat) (xs:List SV) (R:List Loc):Au:=match X.I f with
 |some fn=>S0 F i s o.dst R (call f fn xs s)
 |none=> .bad F (3000+i)
def Fx (o:Oper) (i:Nat) (s:cg) (R:List Loc):Au:=match ss s o with
 |some (f,a,b,c)=>match (jI c.args.toList fun xs=> .done [(.tm 0, .v (.bp xs))]).lh s (Gz c R)with
  |some (R,[(.tm 0, .v (.bp xs))])=>match X.D f with
   |some d=>Td F i s o.dst d (a++xs++b) R fun _=>JJ X F call o i s f (a++xs++b) R
   |none=>JJ X F call o i s f (a++xs++b) R
  |_=> .bad F (4000+i)
 |none=>match (Zo X.P X.H N s.nx o).lh s R with
  |some (R,ws)=>FH F i s R ws
  |none=> .bad F (5000+i)
def I1 (ops:Array Oper) (o:Oper) (i:Nat) (s:cg):Au:=match o.guard with
 |none=>Fx X N F call o i s []
 |some (j,want)=>match ir ops j with
  |some t=>match s.get (.tm t)with
   | .v .tt=>match want with
    |true=>Fx X N F call o i s [.tm t]
    |false=>FH F i s [.tm t] (lL o.dst)
   | .v .ff=>match want with
    |true=>FH F i s [.tm t] (lL o.dst)
    |false=>Fx X N F call o i s [.tm t]
   | .v (.bp [])=>FH F i s [.tm t] (lL o.dst)
   |_=> .bad F (6000+i)
  |none=> .bad F (7000+i)
def AE (ops:Array Oper) (draw:Bool):List Oper->Nat->cg->List Da->(cg->List Da->Out)->Out
 |[],_,s,tr,k=>k s tr
 |o::rest,i,s,tr,k=>match I1 X N F call ops o i s with
  | .ok s' t=>match draw with
   |true=>AE ops draw rest (i+1) s' (tr++[t]) k
   |false=>AE ops draw rest (i+1) s' [] k
  | .bad f i=> .bad f i
def Le :List Nat->List Da->List (Nat×Nat×Nat)
 |m::ms,t::ts=>(m,t.1,t.2)::Le ms ts
 |_,_=>[]
def Nr (ops:Array Oper) (tr:List Da):Bool:=
 Gj 0 (et ops)&&qj 0 (Le (closure (et ops) []) tr)
variable (again : Code -> cg -> Out)
def sK :Code->cg->Out
 | .skip,s=> .n s
 | .label _,s=> .n s
 | .seq a b,s=>match sK a s with
  | .n s=>sK b s
  |o=>o
 | .cond c a b,s=>match Cc s c with
  |some true=>sK a s
  |some false=>sK b s
  |none=> .bad F 8000
 | .block id c,s=>match sK c s with
  | .x i s=>match Nat.beq i id with
   |true=> .n s
   |false=> .x i s
  |o=>o
 | .loop c,s=>match sK c s with
  | .n s=>again (.loop c) s
  |o=>o
 | .exit i,s=> .x i s
 | .ret,s=> .r s
 | .scope c,s=>sK c s
 | .region rid ops draw,s=>match FL N ops with
  |true=>AE X N F call ops draw ops.toList 0 s [] fun s tr=>match draw with
   |true=>match Nr ops tr with
    |true=> .n s
    |false=> .bad F (10000+rid)
   |false=> .n s
  |false=> .bad F 9000
 |_,_=> .bad F 9001
end
def gA (X:DX) (f:Nat) (fn:Func) (o:Out):rV:=
 let go (s:cg):rV:=match (oa X.P fn.results.toList fun xs=> .done [(.tm 0, .v (oneOf xs))]).lh s []with
  |some (R,[(.tm 0, .v r)])=>match nK s.nx R with
   |true=> .ok r s
   |false=> .bad f 9004
  |_=> .bad f 9002
 match o with
 | .n s=>go s
 | .r s=>go s
 | .x _ _=> .bad f 9003
 | .bad f i=> .bad f i
def JK :List SV->Nat->Trie SV->(Trie SV->rV)->rV
 |[],_,t,k=>k t
 |x::r,i,t,k=>Trie.put (.bad 0 9997) jX t i x fun t=>JK r (Nat.succ i) t k
def oK (X:DX) (run:Nat->Nat->Code->cg->Out) (f:Nat) (fn:Func) (args:List SV) (s:cg):rV:=match Nat.ble args.length fn.ntmps with
 |true=>JK args 0 .e fun tm=>match s with
  |⟨_,en,nx,_,_⟩=>gA X f fn (run fn.ntmps f (mB fn) ⟨tm,en,nx,nx,[]⟩)
 |false=> .bad f 9998
def ev (X:DX):Nat->Nat->Nat->Code->cg->Out
 |0,_,F,_,_=> .bad F 9999
 |n+1,N,F,c,s=>sK X N F (oK X (ev X n)) (ev X n N F) c s
end Go.Sx
namespace Go.Sx
open Go Go.RowKit
variable [bW]
section
variable {α β : Type}
theorem dN (n:Nat) (k:Nat->β):cd n k=k n:=by cases n<;>rfl
theorem vP (z:Int) (k:Int->β):vO z k=k z:=by cases z<;>simp only [vO,dN]
theorem Ay (x:IntKind) (k:IntKind->β):HG x k=k x:=by cases x<;>rfl
theorem dr : ∀(x:XE) (k:XE->β),dK x k=k x
 | .v i,k=>by simp only [dK,dN]
 | .c n,k=>by simp only [dK,vP]
 | .add a b,k=>by simp only [dK,dr a,dr b]
 | .sub a b,k=>by simp only [dK,dr a,dr b]
 | .mul a b,k=>by simp only [dK,dr a,dr b]
 | .quo a b,k=>by simp only [dK,dr a,dr b]
 | .mn a b,k=>by simp only [dK,dr a,dr b]
 | .mx a b,k=>by simp only [dK,dr a,dr b]
def Bd (R:Trie α->Nat->Option (Trie α)) (x:α) (n:Nat) (l:Trie α) (v:Option α) (r:Trie α):Option (Trie α):=match n with
 |0=>some (.nd l (some x) r)
 |m+1=>match m%2 with
  |0=>(R l (m/2)).map fun l=> .nd l v r
  |_+1=>(R r (m/2)).map fun r=> .nd l v r
def Trie.ins :Nat->Trie α->Nat->α->Option (Trie α)
 |0,_,_,_=>none
 |f+1,t,n,x=>match t with
  | .e=>Bd (fun t n=>Trie.ins f t n x) x n .e none .e
  | .nd l v r=>Bd (fun t n=>Trie.ins f t n x) x n l v r
def cZ (o:Option α) (bad:β) (k:α->β):β:=match o with
 |some x=>k x
 |none=>bad
theorem Gp {bad:β} {R:Trie α->Nat->(Trie α->β)->β} {R':Trie α->Nat->Option (Trie α)} (h: ∀t n k,R t n k=cZ (R' t n) bad k) (x:α) (n:Nat) (l:Trie α) (v:Option α) (r:Trie α) (k:Trie α->β):Lp R x n l v r k=cZ (Bd R' x n l v r) bad k:=by
 unfold Lp Bd;cases n with
 |zero=>rfl
 |succ m=>
  simp only;cases m%2 with
  |zero=>simp only [h];cases R' l (m/2)<;>rfl
  |succ _=>simp only [h];cases R' r (m/2)<;>rfl
theorem Trie.put_eq (bad:β): ∀(f:Nat) (t:Trie α) (n:Nat) (x:α) (k:Trie α->β),Trie.put bad f t n x k=cZ (Trie.ins f t n x) bad k
 |0,_,_,_,_=>rfl
 |f+1,t,n,x,k=>by
  cases t with
  |e=>exact Gp (fun t n k=>Trie.put_eq bad f t n x k) _ _ _ _ _ _
  |nd l v r=>exact Gp (fun t n k=>Trie.put_eq bad f t n x k) _ _ _ _ _ _
theorem Trie.YT (n:Nat):(Trie.e:Trie α).at n=none:=by unfold Trie.at;rfl
theorem Trie.zV (l r:Trie α) (v:Option α) (n:Nat):(Trie.nd l v r).at n=match n with
 |0=>v
 |m+1=>match m%2 with
  |0=>l.at (m/2)
  |_+1=>r.at (m/2):=by
 conv=>lhs;unfold Trie.at
 all_goals rfl
theorem DO {R:Trie α->Nat->Option (Trie α)} {x:α} (hR: ∀t t' n,R t n=some t'-> ∀m,t'.at m=if m=n then some x else t.at m) {n:Nat} {l:Trie α} {v:Option α} {r t':Trie α} (h:Bd R x n l v r=some t') (m:Nat):t'.at m=if m=n then some x else(Trie.nd l v r).at m:=by
 unfold Bd at h;cases n with
 |zero=>
  simp at h;subst h;cases m with
  |zero=>simp [Trie.zV]
  |succ m=>simp [Trie.zV]
 |succ n=>
  simp only at h;cases h2:n%2 with
  |zero=>
   simp only [h2]at h;cases h3:R l (n/2)with
   |none=>rw [h3]at h;simp at h
   |some l'=>
    rw [h3]at h;simp at h;subst h;cases m with
    |zero=>simp [Trie.zV]
    |succ m=>
     have ih:=hR _ _ _ h3 (m/2);simp only [Trie.zV];cases h4:m%2 with
     |zero=>
      simp only [ih]
      by_cases e:m=n
      . subst e;simp
      . rw [if_neg (by omega),if_neg (by omega)]
     |succ k=>
      simp only;rw [if_neg (by omega)]
  |succ j=>
   simp only [h2]at h;cases h3:R r (n/2)with
   |none=>rw [h3]at h;simp at h
   |some r'=>
    rw [h3]at h;simp at h;subst h;cases m with
    |zero=>simp [Trie.zV]
    |succ m=>
     have ih:=hR _ _ _ h3 (m/2);simp only [Trie.zV];cases h4:m%2 with
     |zero=>
      simp only;rw [if_neg (by omega)]
     |succ k=>
      simp only [ih]
      by_cases e:m=n
      . subst e;simp
      . rw [if_neg (by omega),if_neg (by omega)]
theorem Trie.pY : ∀(f:Nat) {t t':Trie α} {n:Nat} {x:α},Trie.ins f t n x=some t'-> ∀m,t'.at m=if m=n then some x else t.at m
 |0,_,_,_,_,h=>by simp [Trie.ins]at h
 |f+1,t,t',n,x,h=>by
  intro m;cases t with
  |e=>
   simp only [Trie.ins]at h;rw [DO (fun t t' n h=>Trie.pY f h) h m,Trie.YT,Trie.zV];split
   . rfl
   . cases m with
     |zero=>rfl
     |succ m=>
      simp only;cases m%2<;>simp only [Trie.YT]
  |nd l v r=>
   simp only [Trie.ins]at h;exact DO (fun t t' n h=>Trie.pY f h) h m
def pP :List α->Nat->α->Option (List α)
 |[],_,_=>none
 |_::r,0,v=>some (v::r)
 |x::r,n+1,v=>(pP r n v).map (x:: ·)
theorem Cd (bad:β): ∀(l:List α) (n:Nat) (v:α) (k:List α->β),QQ bad l n v k=cZ (pP l n v) bad k
 |[],_,_,_=>rfl
 |_::_,0,_,_=>rfl
 |x::r,n+1,v,k=>by
  simp only [QQ,pP,Cd bad r];cases pP r n v<;>rfl
theorem ya : ∀{l l':List α} {n:Nat} {v:α},pP l n v=some l'->n<l.length/\l'=l.set n v
 |[],_,_,_,h=>by simp [pP]at h
 |_::_,_,0,_,h=>by simp [pP]at h;subst h;simp
 |x::r,_,n+1,v,h=>by
  simp only [pP]at h;cases h2:pP r n v with
  |none=>rw [h2]at h;simp at h
  |some r'=>
   rw [h2]at h;simp at h;subst h;obtain⟨h3,rfl⟩:=ya h2;exact⟨by simpa using h3,rfl⟩
theorem Cn (v:α): ∀(n:Nat) (acc:List α) (k:List α->β),L0 v n acc k=k (List.replicate n v++acc)
 |0,_,_=>rfl
 |n+1,acc,k=>by
  rw [L0,Cn v n,List.replicate_succ'];simp
end
def GE (nx:Nat) (en:Trie Rn):Prop:= ∀id e,en.at id=some e->e.1.ns<=64/\e.2.length<=64/\id<nx
def gF (n:Nat):Loc->Prop
 | .tm _=>True
 | .mt i=>i<n
 | .sg i _=>i<n
structure Y9 (s s' : cg) (l : Loc) (x : Item) : Prop where
 loc : GE s.nx s.en -> gF s'.nx l
 get : s'.get = St.put s.get l x
 nx : s.nx <= s'.nx
 b0 : s'.b0 = s.b0
 P8 : ∀ id, id < s.b0 -> id < s.nx -> id ∉ s'.wr -> s'.en.at id = s.en.at id /\ id ∉ s.wr
 ge : GE s.nx s.en -> GE s'.nx s'.en
def cg.set (s:cg) (l:Loc) (x:Item):Option cg:=s.Nd none l x some
theorem Rd {β:Type} (bad:β) (s:cg) (l:Loc) (x:Item) (k:cg->β):s.Nd bad l x k=cZ (s.set l x) bad k:=by
 obtain⟨tm,en,nx,b0,wr⟩:=s;unfold cg.set cg.Nd;cases l with
 |tm t=>
  cases x with
  |v x=>simp only [Trie.put_eq];cases Trie.ins jX tm t x<;>rfl
  |m x=>rfl
  |s x=>rfl
 |mt id=>
  cases x with
  |v x=>rfl
  |s x=>rfl
  |m x=>
   cases x with
   |none=>rfl
   |some m=>
    simp only;cases h:Nat.ble m.ns 64 with
    |false=>rfl
    |true=>
    simp only;cases h:en.at id with
    |some e=>
     obtain⟨_,l⟩:=e;simp only [Trie.put_eq];cases Trie.ins jX en id (m,l)with
     |none=>rfl
     |some en'=>simp only [cZ];cases Nat.blt id b0<;>rfl
    |none=>
     simp only;cases Nat.beq id nx with
     |false=>rfl
     |true=>
      simp only [Cn,Trie.put_eq,dN];cases Trie.ins jX en id (m,List.replicate (EA m) (.s .any)++[])<;>rfl
 |sg id q=>
  cases x with
  |v x=>rfl
  |m x=>rfl
  |s x=>
   simp only;cases h:en.at id with
   |none=>rfl
   |some e=>
    obtain⟨m,l⟩:=e;simp only [Cd];cases pP l q x with
    |none=>rfl
    |some l'=>
     simp only [cZ,Trie.put_eq];cases Trie.ins jX en id (m,l')with
     |none=>rfl
     |some en'=>simp only [cZ];cases Nat.blt id b0<;>rfl
theorem zb {a b:Nat}:(Nat.blt a b=true)=(a<b):=by simp [Z1]
theorem WS {s s':cg} {l:Loc} {x:Item} (h:s.set l x=some s'):Y9 s s' l x:=by
 obtain⟨tm,en,nx,b0,wr⟩:=s;unfold cg.set cg.Nd at h;cases l with
 |tm t=>
  cases x with
  |m x=>simp at h
  |s x=>simp at h
  |v x=>
   simp only [Trie.put_eq]at h;cases h1:Trie.ins jX tm t x with
   |none=>rw [h1]at h;simp [cZ]at h
   |some tm'=>
    rw [h1]at h;simp [cZ]at h;subst h;have ha:=Trie.pY _ h1;refine⟨fun _=>trivial,?_,J1 _,rfl,fun id _ _ hw=>⟨rfl,hw⟩,fun h=>h⟩
    funext l
    cases l with
    |tm t'=>
     simp only [cg.get,St.put,Loc.tm.injEq,ha]
     by_cases e:t'=t
     . simp [e]
     . simp [e]
    |mt id=>simp [cg.get,St.put]
    |sg id q=>simp [cg.get,St.put]
 |mt id=>
  cases x with
  |v x=>simp at h
  |s x=>simp at h
  |m x=>
   cases x with
   |none=>simp at h
   |some m=>
    simp only at h;cases hns:Nat.ble m.ns 64 with
    |false=>simp [hns]at h
    |true=>
    have hns:=Qk hns;simp only [hns,Nat.ble_eq_true_of_le hns]at h;cases h0:en.at id with
    |some e=>
     obtain⟨m0,l⟩:=e;simp only [h0,Trie.put_eq]at h;cases h1:Trie.ins jX en id (m,l)with
     |none=>rw [h1]at h;simp [cZ]at h
     |some en'=>
      rw [h1]at h;have ha:=Trie.pY _ h1;have hget: ∀wr',cg.get ⟨tm,en',nx,b0,wr'⟩=St.put (cg.get ⟨tm,en,nx,b0,wr⟩) (.mt id) (.m (some m)):=by
       intro wr'
       funext l'
       cases l' with
       |tm t=>simp [cg.get,St.put]
       |mt id'=>
        simp only [cg.get,St.put,Loc.mt.injEq,ha]
        by_cases e:id'=id<;>simp [e]
       |sg id' q=>
        simp only [cg.get,St.put,ha]
        by_cases e:id'=id
        . subst e;simp [h0]
        . simp [e]
      have hge:GE nx en->GE nx en':=fun hg id' e' he'=>by
       rw [ha]at he';split at he'
       . rename_i e;subst e;simp at he';subst he';exact⟨hns,(hg _ _ h0).2⟩
       . exact hg id' e' he'
      cases hb:Nat.blt id b0 with
      |true=>
       simp [cZ,hb]at h;subst h;refine⟨fun hg=>(hg _ _ h0).2.2,hget _,J1 _,rfl,fun id' _ _ hw=> ?_,hge⟩;simp at hw;exact⟨by rw [ha,if_neg hw.1],hw.2⟩
      |false=>
       simp [cZ,hb]at h;subst h;have hb: ¬id<b0:=by rw [<-zb];simp [hb]
       refine⟨fun hg=>(hg _ _ h0).2.2,hget _,J1 _,rfl,fun id' h1 _ hw=>⟨?_,hw⟩,hge⟩;simp only at h1;rw [ha,if_neg (by omega)]
    |none=>
     simp only [h0]at h;cases hb:Nat.beq id nx with
     |false=>simp [hb]at h
     |true=>
      have hb:=Jd hb;subst hb;simp only [Yz,Cn,Trie.put_eq,dN,Kw]at h;cases h1:Trie.ins jX en id (m,List.replicate (EA m) (.s .any))with
      |none=>rw [h1]at h;simp [cZ]at h
      |some en'=>
       rw [h1]at h;simp [cZ]at h;subst h;have ha:=Trie.pY _ h1;refine⟨fun _=>Nat.lt_succ_self _,?_,Nat.le_succ _,rfl,fun id' h2 h3 hw=>⟨?_,hw⟩,fun hg id' e' he'=> ?_⟩
       . funext l'
         cases l' with
         |tm t=>simp [cg.get,St.put]
         |mt id'=>
          simp only [cg.get,St.put,Loc.mt.injEq,ha]
          by_cases e:id'=id<;>simp [e]
         |sg id' q=>
          simp only [cg.get,St.put,ha]
          by_cases e:id'=id
          . subst e;simp only [if_true,h0,Xg,Option.bind_none,Option.getD_none,reduceCtorEq,if_false]
            by_cases h2:q<EA m
            . simp [Xh,h2]
            . simp [Xh,h2]
          . simp [e]
       . simp only at h3⊢;rw [ha,if_neg (by omega)]
       . rw [ha]at he';split at he'
         . rename_i e;subst e;simp at he';subst he';exact⟨hns,by simp only [List.length_replicate,EA];split<;>omega,Nat.lt_succ_self _⟩
         . exact⟨(hg id' e' he').1,(hg id' e' he').2.1,Nat.lt_succ_of_lt (hg id' e' he').2.2⟩
 |sg id q=>
  cases x with
  |v x=>simp at h
  |m x=>simp at h
  |s x=>
   simp only at h;cases h0:en.at id with
   |none=>simp [h0]at h
   |some e=>
    obtain⟨m,l⟩:=e;simp only [h0,Cd]at h;cases h1:pP l q x with
    |none=>rw [h1]at h;simp [cZ]at h
    |some l'=>
     obtain⟨hq,rfl⟩:=ya h1;simp only [h1,cZ,Trie.put_eq]at h;cases h2:Trie.ins jX en id (m,l.set q x)with
     |none=>rw [h2]at h;simp at h
     |some en'=>
      rw [h2]at h;have ha:=Trie.pY _ h2;have hget: ∀wr',cg.get ⟨tm,en',nx,b0,wr'⟩=St.put (cg.get ⟨tm,en,nx,b0,wr⟩) (.sg id q) (.s x):=by
       intro wr'
       funext l'
       cases l' with
       |tm t=>simp [cg.get,St.put]
       |mt id'=>
        simp only [cg.get,St.put,ha]
        by_cases e:id'=id
        . subst e;simp [h0]
        . simp [e]
       |sg id' q'=>
        simp only [cg.get,St.put,Loc.sg.injEq,ha]
        by_cases e:id'=id
        . subst e
          by_cases e2:q'=q
          . subst e2;simp [K6,hq]
          . simp [h0,K6,e2,Yv e2]
        . simp [e]
      have hge:GE nx en->GE nx en':=fun hg id' e' he'=>by
       rw [ha]at he';split at he'
       . rename_i e;subst e;simp at he';subst he';exact⟨(hg _ _ h0).1,by simpa using (hg _ _ h0).2⟩
       . exact hg id' e' he'
      cases hb:Nat.blt id b0 with
      |true=>
       simp [hb]at h;subst h;refine⟨fun hg=>(hg _ _ h0).2.2,hget _,J1 _,rfl,fun id' _ _ hw=> ?_,hge⟩;simp at hw;exact⟨by rw [ha,if_neg hw.1],hw.2⟩
      |false=>
       simp [hb]at h;subst h;have hb: ¬id<b0:=by rw [<-zb];simp [hb]
       refine⟨fun hg=>(hg _ _ h0).2.2,hget _,J1 _,rfl,fun id' h1 _ hw=>⟨?_,hw⟩,hge⟩;simp only at h1;rw [ha,if_neg (by omega)]
def cg.app (s:cg):List (Loc×Item)->Option cg
 |[]=>some s
 |(l,x)::r=>match s.set l x with
  |some s'=>s'.app r
  |none=>none
theorem EW {β:Type} (bad:β): ∀(ws:List (Loc×Item)) (s:cg) (k:cg->β),I6 bad s ws k=cZ (s.app ws) bad k
 |[],s,k=>rfl
 |(l,x)::r,s,k=>by
  simp only [I6,Rd,cg.app];cases s.set l x with
  |none=>rfl
  |some s'=>simp only [cZ,EW bad r]
structure T4 (s s' : cg) (ws : List (Loc × Item)) : Prop where
 get : s'.get = St.apply s.get ws
 nx : s.nx <= s'.nx
 b0 : s'.b0 = s.b0
 P8 : ∀ id, id < s.b0 -> id < s.nx -> id ∉ s'.wr -> s'.en.at id = s.en.at id /\ id ∉ s.wr
 ge : GE s.nx s.en -> GE s'.nx s'.en
 Yt : GE s.nx s.en -> ∀ l ∈ ws.map (·.1), gF s'.nx l
theorem MC : ∀{ws:List (Loc×Item)} {s s':cg},s.app ws=some s'->T4 s s' ws
 |[],s,s',h=>by
  simp [cg.app]at h;subst h;exact⟨rfl,J1 _,rfl,fun id _ _ hw=>⟨rfl,hw⟩,fun h=>h,fun _ l hl=>by simp at hl⟩
 |(l,x)::r,s,s',h=>by
  simp only [cg.app]at h;split at h
  case h_2=>cases h
  rename_i s1 h1;have a:=WS h1;have b:=MC h;refine⟨by rw [b.get,a.get];rfl,Jn a.nx b.nx,b.b0.trans a.b0,fun id h2 h3 h4=> ?_,fun hg=>b.ge (a.ge hg),fun hg l' hl'=> ?_⟩
  rotate_left
  . simp only [J8,Kd]at hl';rcases hl' with rfl|hl'
    . have:=a.loc hg;have hn:=b.nx;cases l'<;>simp only [gF]at this⊢ <;>omega
    . exact b.Yt (a.ge hg) l' hl'
  obtain⟨e1,e2⟩:=b.P8 id (by rw [a.b0];exact h2) (Qf h3 a.nx) h4;obtain⟨e3,e4⟩:=a.P8 id h2 h3 e2;exact⟨e1.trans e3,e4⟩
def oZ (x y:SV):Prop:= ∀ro o v,Rel ro o x v->Rel ro o y v
theorem oZ.refl (x:SV):oZ x x:=fun _ _ _ h=>h
def yY (R:SV->SV) (f:Nat->List SV) (n:Nat):List (List SV):=(List.range n).map fun i=>(f i).map R
def iW (R:SV->SV):ar->ar
 | .s v=> .s (R v)
 | .a n es f=> .a n es (aY es (yY R f n))
def norm :Nat->SV->SV
 |0,x=>x
 |d+1,x=>match x with
  | .bool b=>match b with
   |true=> .tt
   |false=> .ff
  | .agg l=> .agg (l.map (iW (norm d)))
  | .bp l=> .bp (l.map (norm d))
  | .aI es n f=> .aI es n (aY es (yY (norm d) f n))
  | .rA es n f i j=> .rA es n (aY es (yY (norm d) f n)) i j
  | .fn f a b=> .fn f (a.map (norm d)) (b.map (norm d))
  |x=>x
section
variable {β : Type} {R : SV -> (SV -> β) -> β} {R' : SV -> SV}
theorem pZ (h: ∀x k,R x k=k (R' x)): ∀(l:List SV) (k:List SV->β),wg R l k=k (l.map R')
 |[],_=>rfl
 |x::r,k=>by simp only [wg,h,pZ h r,J8]
theorem uo (h: ∀x k,R x k=k (R' x)) (f:Nat->List SV): ∀(n:Nat) (acc:List (List SV)) (k:List (List SV)->β),AQ R f n acc k=k (yY R' f n++acc)
 |0,_,_=>rfl
 |n+1,acc,k=>by
  simp only [AQ,pZ h,uo h f n,yY,Q7,Qx,J8,Z2,Jq,K0,Jj]
theorem ED (h: ∀x k,R x k=k (R' x)) (x:ar) (k:ar->β):EO R x k=k (iW R' x):=by
 cases x with
 |s v=>simp only [EO,h,iW]
 |a n es f=>simp only [EO,dN,uo h,iW,Kw]
theorem E0 (h: ∀x k,R x k=k (R' x)): ∀(l:List ar) (k:List ar->β),IK R l k=k (l.map (iW R'))
 |[],_=>rfl
 |x::r,k=>by simp only [IK,ED h,E0 h r,J8]
theorem ug : ∀(d:Nat) (x:SV) (k:SV->β),oE d x k=k (norm d x)
 |0,x,k=>rfl
 |d+1,x,k=>by
  have ih:=ug d;cases x with
  |bool b=>cases b<;>rfl
  |int a n=>simp only [oE,Ay,vP,norm]
  |sy a e lo hi=>simp only [oE,Ay,dr,vP,norm]
  |agg l=>simp only [oE,E0 ih,norm]
  |bp l=>simp only [oE,pZ ih,norm]
  |aI es n f=>simp only [oE,dN,uo ih,norm,Kw]
  |rA es n f i j=>simp only [oE,dN,uo ih,norm,Kw]
  |fn f a b=>simp only [oE,dN,pZ ih,norm]
  |_=>simp only [oE,dN,norm]
def iy (d:Nat):Loc×Item->Loc×Item
 |(l, .v x)=>(l, .v (norm d x))
 |(l, .m m)=>(l, .m m)
 |(l, .s x)=>(l, .s (iW (norm d) x))
theorem FW (d:Nat): ∀(ws:List (Loc×Item)) (k:List (Loc×Item)->β),uv d ws k=k (ws.map (iy d))
 |[],_=>rfl
 |(l,x)::r,k=>by
  have ih:=FW d r;cases l<;>cases x with
  |v x=>simp only [uv,dN,ug,ih,J8,iy]
  |m x=>cases x<;>simp only [uv,dN,nI,ih,J8,iy]
  |s x=>simp only [uv,dN,ED (ug d),ih,J8,iy]
end
theorem jh {R:SV->SV} {f:Nat->List SV} {n i es:Nat} (h:i<n):aY es (yY R f n) i=(f i).map R:=by
 simp [aY,yY,J0,h]
theorem se (R:SV->SV) (x:ar):(iW R x).size=x.size:=by cases x<;>rfl
theorem N5 (R:SV->SV) (x:ar):(iW R x).es=x.es:=by cases x<;>rfl
theorem Fm (R:SV->SV) (x:ar):(iW R x).shape=x.shape:=by cases x<;>rfl
theorem Ev (R:SV->SV) (x:ar) (k:Nat):(iW R x).at k=(x.at k).map R:=by
 cases x with
 |s v=>cases k<;>rfl
 |a n es f=>
  simp only [iW,ar.at];split
  . rename_i h;have hes:0<es:=by
     rcases Jw es with h0|h0
     . subst h0;simp at h
     . exact h0
    rw [jh (by rw [K9 hes];exact h),J5]
  . rfl
theorem qz (R:SV->SV): ∀l:List ar,aa (l.map (iW R))=aa l
 |[]=>rfl
 |x::r=>by simp only [J8,aa,se,qz R r]
theorem yi (R:SV->SV): ∀(l:List ar) (k:Nat),flat (l.map (iW R)) k=(flat l k).map R
 |[],_=>rfl
 |x::r,k=>by
  simp only [J8,flat,se,Ev,yi R r];split<;>rfl
theorem nb : ∀(d:Nat) (x:SV),oZ x (norm d x)
 |0,x=>oZ.refl x
 |d+1,x=>by
  have ih:=nb d;intro ro o v h;cases h with
  |bool _ b=>cases b<;>constructor
  |agg _ l cs hs h=>
   refine .agg _ _ _ (by rw [qz];exact hs) fun k sv hk=> ?_
   rw [yi]at hk;cases h1:flat l k with
   |none=>rw [h1]at hk;simp at hk
   |some u=>rw [h1]at hk;simp at hk;subst hk;exact ih u _ _ _ (h k u h1)
  |bp _ l vs hs h=>
   refine .bp _ _ _ (by simpa using hs) fun i sv hi=> ?_
   rw [J5]at hi;cases h1:l[i]? with
   |none=>rw [h1]at hi;simp at hi
   |some u=>rw [h1]at hi;simp at hi;subst hi;exact ih u _ _ _ (h i u h1)
  |fe _ es n f a cap h=>exact .fe _ _ _ _ _ _ h
  |aI _ es n f b k0 cap vs hc hl hm h=>
   refine .aI _ _ _ _ _ _ _ vs hc (fun i hi=>by rw [jh hi,Qj];exact hl i hi) hm fun i j sv hi hj=> ?_
   rw [jh hi,J5]at hj;cases h1:(f i)[j]? with
   |none=>rw [h1]at hj;simp at hj
   |some u=>rw [h1]at hj;simp at hj;subst hj;exact ih u _ _ _ (h i j u hi h1)
  |rA _ es n f i j b k0 vs hl hm h hi=>
   refine .rA _ _ _ _ _ _ _ _ vs (fun i hi=>by rw [jh hi,Qj];exact hl i hi) hm (fun i j sv hi hj=> ?_) hi;rw [jh hi,J5]at hj;cases h1:(f i)[j]? with
   |none=>rw [h1]at hj;simp at hj
   |some u=>rw [h1]at hj;simp at hj;subst hj;exact ih u _ _ _ (h i j u hi h1)
  |fn _ f a b va vb ha hb h1 h2=>
   refine .fn _ _ _ _ _ _ (by simpa using ha) (by simpa using hb) (fun i sv hi=> ?_) fun i sv hi=> ?_
   . rw [J5]at hi;cases e1:a[i]? with
     |none=>rw [e1]at hi;simp at hi
     |some u=>rw [e1]at hi;simp at hi;subst hi;exact ih u _ _ _ (h1 i u e1)
   . rw [J5]at hi;cases e1:b[i]? with
     |none=>rw [e1]at hi;simp at hi
     |some u=>rw [e1]at hi;simp at hi;subst hi;exact ih u _ _ _ (h2 i u e1)
  |sl _ id aD off len b h hc=>exact .sl _ _ _ _ _ _ h hc
  |Es _ id aD off len h hl ho=>exact .Es _ _ _ _ _ h hl ho
  |ptr _ id q b h=>exact .ptr _ _ _ _ h
  |su _ id aD q i j b h=>exact .su _ _ _ _ _ _ _ h
  |z9 _ id b h=>exact .z9 _ _ _ h
  |DG _ v h=>exact .DG _ _ h
  |sy _ k e lo hi n h h1 h2=>exact .sy _ _ _ _ _ _ h h1 h2
  |tg _ i v h=>exact .tg _ _ _ h
  |_=>constructor
def Ln :Item->Item->Prop
 | .v x, .v y=>oZ x y
 | .m a, .m b=>a=b
 | .s x, .s y=>x=y\/ ∃R:SV->SV,(∀v,oZ v (R v))/\y=iW R x
 |_,_=>False
theorem Ln.refl (x:Item):Ln x x:=by
 cases x with
 |v x=>exact oZ.refl x
 |m x=>rfl
 |s x=>exact .inl rfl
structure HZ (x y : ar) : Prop where
 size : y.size = x.size
 es : y.es = x.es
 shape : y.shape = x.shape
 row : ∀ n es f, x = .a n es f -> ∃ g, y = .a n es g
 at_ : ∀ k sv, y.at k = some sv -> ∃ u, x.at k = some u /\ oZ u sv
theorem HZ.of {x y:ar} (h:Ln (.s x) (.s y)):HZ x y:=by
 rcases h with rfl|⟨R,hR,rfl⟩
 . exact⟨rfl,rfl,rfl,fun n es f h=>⟨f,h⟩,fun k sv h=>⟨sv,h,oZ.refl _⟩⟩
 . refine⟨se _ _,N5 _ _,Fm _ _,fun n es f h=>⟨_,by rw [h];rfl⟩,fun k sv h=> ?_⟩;rw [Ev]at h;cases h1:x.at k with
   |none=>rw [h1]at h;simp at h
   |some u=>rw [h1]at h;simp at h;subst h;exact⟨u,rfl,hR u⟩
inductive jy : List ar -> List ar -> Prop
 | nil : jy [] []
 | cons {x y : ar} {l r : List ar} (h : HZ x y) (t : jy l r) : jy (x :: l) (y :: r)
theorem jy.size {l r:List ar} (h:jy l r):aa r=aa l:=by
 induction h with
 |nil=>rfl
 |cons h t ih=>simp only [aa,h.size,ih]
theorem jy.shape {l r:List ar} (h:jy l r):r.map ar.shape=l.map ar.shape:=by
 induction h with
 |nil=>rfl
 |cons h t ih=>simp only [J8,h.shape,ih]
theorem jy.take {l r:List ar} (h:jy l r) (q:Nat):jy (l.take q) (r.take q):=by
 induction h generalizing q with
 |nil=>simp;exact .nil
 |cons h t ih=>
  cases q with
  |zero=>exact .nil
  |succ q=>exact .cons h (ih q)
theorem jy.at {l r:List ar} (h:jy l r) {q:Nat} {y:ar} (hy:r[q]?=some y): ∃x,l[q]?=some x/\HZ x y:=by
 induction h generalizing q with
 |nil=>simp at hy
 |cons h t ih=>
  cases q with
  |zero=>simp at hy;subst hy;exact⟨_,rfl,h⟩
  |succ q=>simp at hy;simpa using ih hy
theorem jy.flat {l r:List ar} (h:jy l r) {k:Nat} {sv:SV} (hk:flat r k=some sv): ∃u,flat l k=some u/\oZ u sv:=by
 induction h generalizing k with
 |nil=>simp [Go.Sx.flat]at hk
 |cons h t ih=>
  simp only [Go.Sx.flat,h.size]at hk⊢;split at hk
  . rename_i h1;rw [if_pos h1];exact h.at_ _ _ hk
  . rename_i h1;rw [if_neg h1];exact ih hk
theorem jy.az {s s':St} (h: ∀l,Ln (s l) (s' l)) (id n:Nat):jy (s.az id n) (s'.az id n):=by
 unfold St.az
 induction (List.range n)with
 |nil=>exact .nil
 |cons q r ih=>
  refine .cons ?_ ih;have:=h (.sg id q);unfold St.uC;cases h1:s (.sg id q)<;>cases h2:s' (.sg id q)<;>rw [h1,h2]at this
  case s.s=>exact HZ.of this
  case v.v=>exact HZ.of (Ln.refl _)
  case m.m=>exact HZ.of (Ln.refl _)
  all_goals exact this.elim
theorem bA.weaken {E:Env} {ro:RO} {own:Own} {s s':St} {w:World} {a:Act} (h:bA E ro own s w a) (hw: ∀l,Ln (s l) (s' l)):bA E ro own s' w a:=by
 have hm: ∀id x,s' (.mt id)= .m x->s (.mt id)= .m x:=fun id x hx=>by
  have:=hw (.mt id);rw [hx]at this;cases h1:s (.mt id)<;>rw [h1]at this
  case m y=>have:y=x:=this;rw [this]
  all_goals exact this.elim
 refine {below:=h.below,base:=h.base,defs:=h.defs,size:=h.size,tm:=fun t sv ht=> ?_,cJ:=h.cJ,ee:=h.ee,gK:=fun id m he=> ?_,fr:=fun id he=>h.fr id (hm id _ he),mY:=fun id m he=>h.mY id m (hm id _ he),inj:=fun id id' m m' b h1 h2=>h.inj id id' m m' b (hm _ _ h1) (hm _ _ h2),kk:=h.kk,mp:=⟨fun id m n e f h1 h2 h3=> ?_,fun id id' m m' b n e f n' e' f' h1 h2 h3 h4 g1 g2=> ?_⟩}
 . have:=hw (.tm t);rw [ht]at this;cases h1:s (.tm t)<;>rw [h1]at this
   case v x=>exact this _ _ _ (h.tm t x h1)
   all_goals exact this.elim
 . have e:=h.gK id m (hm id _ he);have sw:=jy.az hw id m.ns;refine {st:=fun q hq=>by rw [e.st q hq,(sw.take q).size],es:=fun q x hx=> ?_,row:=fun hr=> ?_,plain:=fun hr=> ?_,there:=e.there,nil:=fun hn=> ?_,live:=fun b hb hz=> ?_,dn:=fun b hb hz k hk=> ?_}
   . obtain⟨y,hy,hs⟩:=sw.at hx;rw [e.es q y hy,hs.es]
   . obtain⟨n,f,h1,h2⟩:=e.row hr;rw [h1]at sw;cases h3:s'.az id m.ns with
     |nil=>rw [h3]at sw;cases sw
     |cons y r=>
      rw [h3]at sw;cases sw with
      |cons h4 t=>
       cases t;obtain⟨g,rfl⟩:=h4.row _ _ _ rfl;exact⟨n,g,rfl,h2⟩
   . obtain⟨h1,h2⟩:=e.plain hr;exact⟨h1,by rw [h2,sw.shape]⟩
   . obtain⟨h0,f,h1⟩:=e.nil hn;rw [h1]at sw;refine⟨h0,?_⟩;cases h3:s'.az id m.ns with
     |nil=>rw [h3]at sw;cases sw
     |cons y r=>
      rw [h3]at sw;cases sw with
      |cons h4 t=>
       cases t;obtain⟨g,rfl⟩:=h4.row _ _ _ rfl;exact⟨g,rfl⟩
   . have hl:=e.live b hb hz;obtain⟨cs,e',lo,hi,r0,r1,r2,r3,r4,r5,r6⟩:=hl.body;refine⟨hl.low,hl.apart,cs,e',lo,hi,r0,by rw [sw.size];exact r1,r2,by rw [sw.size];exact r3,fun k sv hk=> ?_,by rw [sw.size];exact r5,r6⟩;obtain⟨u,h1,h2⟩:=sw.flat hk;exact h2 _ _ _ (r4 k u h1)
   . rw [sw.size]at hk;obtain⟨v,h1,h2⟩:=e.dn b hb hz k hk;refine⟨v,h1,fun sv hs=> ?_⟩;obtain⟨u,h3,h4⟩:=sw.flat hs;exact h4 _ _ _ (h2 u h3)
 . have:=hw (.sg id 0);rw [h3]at this;cases h4:s (.sg id 0)<;>rw [h4]at this
   case s x=>
    rcases this with rfl|⟨R,hR,hx⟩
    . exact h.mp.at_ id m n e f (hm _ _ h1) h2 h4
    . cases x with
      |s v=>simp [iW]at hx
      |a n' e' f'=>
       simp only [iW,ar.a.injEq]at hx;obtain⟨rfl,rfl,rfl⟩:=hx;obtain⟨b,o,e1,e2,e3,e4,e5,e6⟩:=(h.mp.at_ id m n e f' (hm _ _ h1) h2 h4).at_;refine⟨b,o,e1,e2,e3,e4,?_,e6⟩;cases e5 with
       |map es clk n f hn hf=>
        refine .map es clk _ _ hn fun i x hx=> ?_
        obtain⟨k,v,f1,f2,f3⟩:=hf i x hx;have hi:i<n:=by rw [<-hn];exact(K3.1 hx).1
        exact⟨R k,R v,by rw [jh hi,f1];rfl,hR k _ _ _ f2,hR v _ _ _ f3⟩
       |iter l pos n f hf hn=>
        obtain⟨k,v,f1,f2,f3⟩:=hf;exact .iter l pos _ _ ⟨R k,R v,by rw [jh (by omega),f1];rfl,hR k _ _ _ f2,hR v _ _ _ f3⟩ hn
   all_goals exact this.elim
 . have key: ∀i n e f,s' (.sg i 0)= .s (.a n e f)-> ∃g,s (.sg i 0)= .s (.a n e g):=fun i n e f h3=>by
    have:=hw (.sg i 0);rw [h3]at this;cases h4:s (.sg i 0)<;>rw [h4]at this
    case s x=>
     rcases this with rfl|⟨R,hR,hx⟩
     . exact⟨_,rfl⟩
     . cases x with
       |s v=>simp [iW]at hx
       |a n' e' f'=>
        simp only [iW,ar.a.injEq]at hx;obtain⟨rfl,rfl,rfl⟩:=hx;exact⟨_,rfl⟩
    all_goals exact this.elim
   obtain⟨q1,p1⟩:=key id _ _ _ g1;obtain⟨q2,p2⟩:=key id' _ _ _ g2;exact h.mp.inj id id' m m' b _ _ _ _ _ _ (hm _ _ h1) (hm _ _ h2) h3 h4 p1 p2
theorem dL.weaken {E:Env} {s s':St} {w:World} {a:Act} (h:dL E s w a) (hw: ∀l,Ln (s l) (s' l)):dL E s' w a:=by
 obtain⟨ro,own,h⟩:=h;exact⟨ro,own,h.weaken hw⟩
theorem Mq (d:Nat) (x:Loc×Item):(iy d x).1=x.1/\Ln x.2 (iy d x).2:=by
 obtain⟨l,x⟩:=x;cases x with
 |v x=>exact⟨rfl,nb d x⟩
 |m x=>exact⟨rfl,rfl⟩
 |s x=>exact⟨rfl, .inr ⟨norm d,nb d,rfl⟩⟩
theorem wq (d:Nat): ∀(ws:List (Loc×Item)) {s s':St},(∀l,Ln (s l) (s' l))-> ∀l,Ln ((s.apply ws) l) ((s'.apply (ws.map (iy d))) l)
 |[],s,s',h,l=>h l
 |x::r,s,s',h,l=>by
  obtain⟨h1,h2⟩:=Mq d x;obtain⟨l0,x⟩:=x;simp only [J8,St.apply];have:iy d (l0,x)=(l0,(iy d (l0,x)).2):=Prod.ext h1 rfl;rw [this];refine wq d r (fun l=> ?_) l
  by_cases e:l=l0
  . subst e;rw [St.cQ,St.cQ];exact h2
  . rw [St.bh _ _ e,St.bh _ _ e];exact h l
end Go.Sx
namespace Go.Sx
open Go Go.RowKit
variable [bW]
section
variable {E : Env} {P : Program} {ro : RO} {own : Own} {s : St} {w : World} {a : Act}
theorem bA.WY (h:bA E ro own s w a) (o:Obj):bA E ro own s (w.alloc o) a:=by
 have hb:Below w.heap.size w (w.alloc o):=⟨rfl,rfl,rfl,by unfold World.alloc;simp only [Array.size_push];omega,fun k hk=>by unfold World.alloc;simp only;rw [Qv,if_neg (by omega)]⟩;refine h.called hb (.refl _) (fun b o' v hv=> ?_) fun _ _ _=>rfl
 have hlt:b<w.heap.size:=block_lt_of_cell (h.cJ b o' v hv).1;have e:(w.alloc o).heap[b]?=w.heap[b]?:=by unfold World.alloc;simp only;rw [Qv,if_neg (by omega)]
 exact(h.cJ b o' v hv).of_heap e
theorem bA.Ow (h:bA E ro own s w a) {nid:Nat} (hf:s (.mt nid)= .m none) {b:Nat} {ob:Obj} {n0 e0:Nat} {g0:Nat->List SV} (hB:E.B<=b) (hb:w.heap[b]?=some ob) (hnc: ∀c t fr,ob≠ .cells c t fr) (hob:mD ro own ob n0 e0 g0) (hnew: ∀id m n e f,s (.mt id)= .m (some m)->cz m=true->s (.sg id 0)= .s (.a n e f)->own.env id 0≠some (some b)):
 ∃own',own.le own'/\own'.env nid 0=some (some b)/\own'.st nid 0=0/\bA E ro own' (s.apply [(.mt nid, .m (some gd)),(.sg nid 0, .s (.a n0 e0 g0))]) w a:=by
 let own':Own:={own with env:=fun id aD=>if id=nid then(if aD=0 then some (some b)else none)else own.env id aD,st:=fun id q=>if id=nid then 0 else own.st id q}
 have hne: ∀id aD x,own.env id aD=some x->id≠nid:=by
  rintro id aD x hx rfl;rw [h.fr id hf aD]at hx;cases hx
 have hle:own.le own':=by
  refine⟨fun id aD x hx=> ?_,fun id aD x hx=>rfl,fun id aD x q hx=> ?_,fun id aD x q hx=>rfl⟩
  . simp [own',hne id aD x hx,hx]
  . simp [own',hne id aD x hx]
 have hmt: ∀id,id≠nid->(s.apply [(.mt nid, .m (some gd)),(.sg nid 0, .s (.a n0 e0 g0))]) (.mt id)=s (.mt id):=fun id hid=>by
  simp only [St.apply,St.put];rw [if_neg (by simp),if_neg (by simpa using hid)]
 have hmn:(s.apply [(.mt nid, .m (some gd)),(.sg nid 0, .s (.a n0 e0 g0))]) (.mt nid)= .m (some gd):=by simp [St.apply,St.put]
 have hsg: ∀id q,id≠nid->(s.apply [(.mt nid, .m (some gd)),(.sg nid 0, .s (.a n0 e0 g0))]) (.sg id q)=s (.sg id q):=fun id q hid=>by
  simp only [St.apply,St.put];rw [if_neg (by simp [hid]),if_neg (by simp)]
 have htm: ∀t,(s.apply [(.mt nid, .m (some gd)),(.sg nid 0, .s (.a n0 e0 g0))]) (.tm t)=s (.tm t):=fun t=>by
  simp only [St.apply,St.put];rw [if_neg (by simp),if_neg (by simp)]
 have hsegs: ∀id n,id≠nid->(s.apply [(.mt nid, .m (some gd)),(.sg nid 0, .s (.a n0 e0 g0))]).az id n=s.az id n:=fun id n hid=>St.dc fun q _=>hsg id q hid
 have env0:own'.env nid 0=some (some b):=by simp [own']
 refine⟨own',hle,env0,by simp [own'],{below:=h.below,base:=h.base,defs:=h.defs,size:=h.size,tm:=fun t sv ht=>(h.tm t sv (by rw [<-htm t];exact ht)).own hle,cJ:=h.cJ,ee:=h.ee,gK:=fun id m hm=> ?_,fr:=fun id hm aD=> ?_,mY:=fun id m hm aD hv=> ?_,inj:=fun id id' m m' b' h1 h2 z1 z2 h3 h4=> ?_,kk:=E.mono _ _ _ _ hle (.refl _) h.kk,mp:=⟨fun id m n e f h1 h2 h3=> ?_,fun id id' m m' b' n e f n' e' f' h1 h2 h3 h4 g1 g2 h5 h6=> ?_⟩}⟩
 . by_cases hid:id=nid
   . subst hid;rw [hmn]at hm;simp only [Item.m.injEq,J3]at hm;subst hm;have e0: ∀s':St,s'.az id gd.ns=[]:=fun s'=>rfl
     rw [e0];exact {st:=fun q hq=>by simp [gd]at hq,es:=fun q x hx=>by simp at hx,row:=fun hr=>by simp [gd]at hr,plain:=fun _=>⟨rfl,rfl⟩,there:=⟨_,env0⟩,nil:=(fun hn=>by have hn':own'.env id 0=some none:=hn;rw [env0]at hn';cases hn'),live:=fun b _ hz=>by simp [gd]at hz,dn:=fun b _ _ k hk=>by simp [aa]at hk}
   . rw [hmt id hid]at hm;rw [hsegs id _ hid];have he:=h.gK id m hm;have e1: ∀aD,own'.env id aD=own.env id aD:=fun aD=>by simp [own',hid]
     refine {st:=fun q hq=>by simpa [own',hid]using he.st q hq,es:=he.es,row:=fun hr=> ?_,plain:=he.plain,there:=by rw [e1];exact he.there,nil:=fun hn=>he.nil (by rw [<-e1];exact hn),live:=fun b' hb' hz=> ?_,dn:=fun b' hb' hz=>he.dn b' (by rw [<-e1];exact hb') hz}
     . obtain⟨n,f,q1,q2⟩:=he.row hr;exact⟨n,f,q1,fun b' hb'=>q2 b' (by rw [<-e1];exact hb')⟩
     . have hl:=he.live b' (by rw [<-e1];exact hb') hz;obtain⟨cs,e',lo,hi,r0,r1,r2,r3,r4,r5,r6⟩:=hl.body;exact⟨hl.low,hl.apart,cs,e',lo,hi,r0,r1,r2,r3,fun k sv hk=>(r4 k sv hk).own hle,r5,r6⟩
 . by_cases hid:id=nid
   . subst hid;rw [hmn]at hm;cases hm
   . rw [hmt id hid]at hm;simp only [own',hid,if_false];exact h.fr id hm aD
 . by_cases hid:id=nid
   . subst hid;rw [hmn]at hm;simp only [Item.m.injEq,J3]at hm;subst hm;have:0<aD:=hv;simp only [own',if_true];rw [if_neg (by omega)]
   . rw [hmt id hid]at hm;simp only [own',hid,if_false];exact h.mY id m hm aD hv
 . have ne: ∀j mj,(s.apply [(.mt nid, .m (some gd)),(.sg nid 0, .s (.a n0 e0 g0))]) (.mt j)= .m (some mj)->mj.gN=false->j≠nid:=by
    rintro j mj hj hzj rfl;rw [hmn]at hj;simp only [Item.m.injEq,J3]at hj;subst hj;cases hzj
   have n1:=ne id m h1 z1;have n2:=ne id' m' h2 z2;rw [hmt id n1]at h1;rw [hmt id' n2]at h2;exact h.inj id id' m m' b' h1 h2 z1 z2 (by simpa [own',n1]using h3) (by simpa [own',n2]using h4)
 . by_cases hid:id=nid
   . subst hid;have:(s.apply [(.mt id, .m (some gd)),(.sg id 0, .s (.a n0 e0 g0))]) (.sg id 0)= .s (.a n0 e0 g0):=by simp [St.apply,St.put]
     rw [this]at h3;simp only [Item.s.injEq,ar.a.injEq]at h3;obtain⟨rfl,rfl,rfl⟩:=h3;exact⟨b,ob,env0,hB,hb,hnc,hob.mono (.refl _) hle,by simp [own']⟩
   . rw [hmt id hid]at h1;rw [hsg id 0 hid]at h3;obtain⟨b',o',e1,e2,e3,e4,e5,e6⟩:=(h.mp.at_ id m n e f h1 h2 h3).at_;exact⟨b',o',by simpa [own',hid]using e1,e2,e3,e4,e5.mono (.refl _) hle,by simpa [own',hid]using e6⟩
 . by_cases hid:id=nid
   . by_cases hid':id'=nid
     . rw [hid,hid']
     . exfalso;subst hid;rw [hmt id' hid']at h2;rw [env0]at h5;simp at h5;subst h5;rw [hsg id' 0 hid']at g2;exact hnew id' m' _ _ _ h2 h4 g2 (by simpa [own',hid']using h6)
   . by_cases hid':id'=nid
     . exfalso;subst hid';rw [hmt id hid]at h1;rw [env0]at h6;simp at h6;subst h6;rw [hsg id 0 hid]at g1;exact hnew id m _ _ _ h1 h3 g1 (by simpa [own',hid]using h5)
     . rw [hmt id hid]at h1;rw [hmt id' hid']at h2;rw [hsg id 0 hid]at g1;rw [hsg id' 0 hid']at g2;exact h.mp.inj id id' m m' b' _ _ _ _ _ _ h1 h2 h3 h4 g1 g2 (by simpa [own',hid]using h5) (by simpa [own',hid']using h6)
theorem bA.map_lt (h:bA E ro own s w a) {id:Nat} {m:lZ} (hm:s (.mt id)= .m (some m)) (hk:cz m=true) {n e:Nat} {f:Nat->List SV} (hs:s (.sg id 0)= .s (.a n e f)) {b:Nat} (hb:own.env id 0=some (some b)):b<w.heap.size:=by
 obtain⟨b',o',e1,e2,e3,_,_,_⟩:=(h.mp.at_ id m n e f hm hk hs).at_;rw [e1]at hb;simp at hb;subst hb;exact(K3.1 e3).1
end
end Go.Sx
